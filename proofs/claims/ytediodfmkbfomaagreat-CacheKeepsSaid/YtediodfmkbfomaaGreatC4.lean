/- A part of the proof: contracts and plain lemmas, each without conditions beyond those that it names. -/
import Derived.Test.YtediodfmkbfomaaGreatC3
set_option linter.unusedVariables false
set_option linter.unusedSimpArgs false
set_option linter.constructorNameAsVariable false
namespace Go.Proofs
open Go Go.Sl
namespace W
set_option linter.unusedVariables false
def whatV : Option WhatM → Value
 | none => .nilIface
 | some w => WhatM.val w
theorem len1 {α : Type} {l : List α} (h : l.length = 1) : ∃ a, l = [a] := by
 match l, h with
 | [a], _ => exact ⟨a, rfl⟩
theorem len3 {α : Type} {l : List α} (h : l.length = 3) : ∃ a b c, l = [a, b, c] := by
 match l, h with
 | [a, b, c], _ => exact ⟨a, b, c, rfl⟩
theorem len6 {α : Type} {l : List α} (h : l.length = 6) : ∃ a b c d e f, l = [a, b, c, d, e, f] := by
 match l, h with
 | [a, b, c, d, e, f], _ => exact ⟨a, b, c, d, e, f, rfl⟩
set_option maxHeartbeats 8000000 in
theorem kWhat [Env] {R : List Seg} {A : CaA} {C : CaM} {kind : Int} {nv tv v : Value} {ts : List Bytes} {ns : List Int} (hb : C.bl ≤ 32) (hv : RdV R v ns.length (intsV ns)) (htv : RdV R tv ts.length (strsV ts)) (hno : nv.oneCell' = true) :
   Con Tryz.prog 67 [ptr A.p, .agg #[i64 kind, nv, tv], v] [caP A C] R (Is (whatV (whatC C.bl kind ts ns)) [caP A C]) := by
 have hvl := hv.lenVal
 have htl := htv.lenVal
 refine con_enter Tryz.func67 Tryz.ntmps67 rfl rfl ?_
 refine cseq ?_; intro K1 hK1
 refine creg ?_
 refine ya (ac_box (vs := [i64 kind, nv, tv]) rfl rfl) rfl ?_
 rintro v L' ⟨b4, rfl, rfl⟩
 refine yas ?_
 refine ynil' (kthn (hK1 _ _ ?_))
 clear hK1
 refine cseq ?_; intro K2 hK2
 refine creg ?_
 refine y (ev_fieldAddr 2 rfl Tryz.underlying126 rfl Tryz.sizeOf98) rfl ?_
 refine y (ev_load rfl Tryz.isAgg98 zin rfl) rfl ?_
 refine y (ev_lenV rfl Tryz.underlying98 htl) rfl ?_
 refine yas ?_
 refine ynil' (kthn (hK2 _ _ ?_))
 clear hK2
 refine cseq ?_; intro K3 hK3
 refine cblock ?_
 refine cseq ?_; intro K4 hK4
 have hJe6 := jget (I := ¬ (kind = 10 ∧ ns.length = 6 ∧ ts.length = 1)) (F := [(0, ptr A.p), (2, v), (4, ptr b4), (7, i64 ts.length)]) (M := [sc b4 [i64 kind, nv, tv] 126, caP A C] ++ R) hK4 (by
  intro hIe6
  refine cseq ?_; intro K5 hK5
  have hJe10 := jget (I := ¬ (kind = 11 ∧ ns.length = 3 ∧ ts.length = 0)) (F := [(0, ptr A.p), (2, v), (4, ptr b4), (7, i64 ts.length)]) (M := [sc b4 [i64 kind, nv, tv] 126, caP A C] ++ R) hK5 (by
   intro hIe10
   refine cseq ?_; intro K6 hK6
   have hJe12 := jget (I := ¬ (kind = 12 ∧ ns.length = 1 ∧ ts.length = 0 ∧ inB C.bl (ns.getD 0 0) = true)) (F := [(0, ptr A.p), (2, v), (4, ptr b4), (7, i64 ts.length)]) (M := [sc b4 [i64 kind, nv, tv] 126, caP A C] ++ R) hK6 (by
    intro hIe12
    refine cseq ?_; intro K7 hK7
    refine creg ?_
    refine y (ev_fieldAddr 0 rfl Tryz.underlying126 rfl Tryz.sizeOf3) rfl ?_
    refine y (ev_load rfl Tryz.isAgg3 zin rfl) rfl ?_
    refine y (ev_eql rfl rfl) rfl ?_
    refine ymv ?_
    refine ysplit 156 rfl (fun h11 => ?_) (fun h11 => ?_)
    ·(try simp only [sH] at h11)
     refine ygo ?_
     refine ymv ?_
     refine ygo ?_
     refine y (ev_lenV rfl Tryz.underlying56 hvl) rfl ?_
     refine ygo ?_
     refine y (ev_eql rfl rfl) rfl ?_
     refine ypa ?_
     refine ymv ?_
     refine ysplit 161 rfl (fun h17 => ?_) (fun h17 => ?_)
     ·(try simp only [sH] at h17)
      refine ygo ?_
      refine ymv ?_
      refine ygo ?_
      refine y (ev_eql rfl rfl) rfl ?_
      refine ypa ?_
      refine yas ?_
      refine ynil' (kthn (hK7 _ _ ?_))
      clear hK7
      refine ccond rfl (fun h22 => ?_) (fun h22 => ?_)
      ·(try simp only [sH] at h22)
       refine cseq ?_; intro K8 hK8
       refine creg ?_
       have hc0 : kind = 13 ∧ ns.length = 0 ∧ ts.length = 0 := ⟨by omega, by omega, by omega⟩
       refine y (ev_build (zs := _) rfl Tryz.underlying108 Tryz.zeroValue108 rfl .nil trivial (by dsimp [fillL, splice, vcells] <;> rfl)) rfl ?_
       refine y (ev_iface rfl (by kernel_rfl)) rfl ?_
       refine yas ?_
       refine ynil' (kthn (hK8 _ _ ?_))
       clear hK8
       refine cret (kbr (kthr ?_))
       first
         | (exfalso; omega; done)
         | (refine kretv Tryz.results67 rfl (L1 := [caP A C] ++ R) zge ?_
            exact ⟨_, ⟨by first | rfl | (rw [hk10]; exact (congrArg whatV (if_pos hc8)).symm) | (rw [hk11]; exact (congrArg whatV ((if_pos ⟨rfl, rfl, hts0⟩).trans (if_pos hc3))).symm) | (unfold whatC; rw [if_neg hIe6, if_neg hIe10, if_pos hc1]; rfl) | (unfold whatC; rw [if_neg hIe6, if_neg hIe10, if_neg hIe12, if_pos hc0]; rfl) | (unfold whatC; (repeat' split) <;> first | rfl | (exfalso; omega) | (exfalso; simp_all; done)), rfl⟩, by first | rfl | (rw [hk10]; exact (congrArg whatV (if_pos hc8)).symm) | (rw [hk11]; exact (congrArg whatV ((if_pos ⟨rfl, rfl, hts0⟩).trans (if_pos hc3))).symm) | (unfold whatC; rw [if_neg hIe6, if_neg hIe10, if_pos hc1]; rfl) | (unfold whatC; rw [if_neg hIe6, if_neg hIe10, if_neg hIe12, if_pos hc0]; rfl) | (unfold whatC; (repeat' split) <;> first | rfl | (exfalso; omega) | (exfalso; simp_all; done))⟩)
      ·(try simp only [sH] at h22)
       refine cskip' (kbn (kthn (hK3 _ _ ?_)))
       clear hK3
       refine cseq ?_; intro K9 hK9
       refine creg ?_
       refine yas ?_
       refine ynil' (kthn (hK9 _ _ ?_))
       clear hK9
       refine cret ?_
       first
         | (exfalso; omega; done)
         | (refine kretv Tryz.results67 rfl (L1 := [caP A C] ++ R) zge ?_
            exact ⟨_, ⟨by first | rfl | (rw [hk10]; exact (congrArg whatV (if_pos hc8)).symm) | (rw [hk11]; exact (congrArg whatV ((if_pos ⟨rfl, rfl, hts0⟩).trans (if_pos hc3))).symm) | (unfold whatC; rw [if_neg hIe6, if_neg hIe10, if_pos hc1]; rfl) | (unfold whatC; rw [if_neg hIe6, if_neg hIe10, if_neg hIe12, if_pos hc0]; rfl) | (unfold whatC; (repeat' split) <;> first | rfl | (exfalso; omega) | (exfalso; simp_all; done)), rfl⟩, by first | rfl | (rw [hk10]; exact (congrArg whatV (if_pos hc8)).symm) | (rw [hk11]; exact (congrArg whatV ((if_pos ⟨rfl, rfl, hts0⟩).trans (if_pos hc3))).symm) | (unfold whatC; rw [if_neg hIe6, if_neg hIe10, if_pos hc1]; rfl) | (unfold whatC; rw [if_neg hIe6, if_neg hIe10, if_neg hIe12, if_pos hc0]; rfl) | (unfold whatC; (repeat' split) <;> first | rfl | (exfalso; omega) | (exfalso; simp_all; done))⟩)
     ·(try simp only [sH] at h17)
      refine ygz ?_
      refine ygz ?_
      refine ypb ?_
      refine yas ?_
      refine ynil' (kthn (hK7 _ _ ?_))
      clear hK7
      refine ccond0 rfl ?_
      refine cskip' (kbn (kthn (hK3 _ _ ?_)))
      clear hK3
      refine cseq ?_; intro K10 hK10
      refine creg ?_
      refine yas ?_
      refine ynil' (kthn (hK10 _ _ ?_))
      clear hK10
      refine cret ?_
      first
        | (exfalso; omega; done)
        | (refine kretv Tryz.results67 rfl (L1 := [caP A C] ++ R) zge ?_
           exact ⟨_, ⟨by first | rfl | (rw [hk10]; exact (congrArg whatV (if_pos hc8)).symm) | (rw [hk11]; exact (congrArg whatV ((if_pos ⟨rfl, rfl, hts0⟩).trans (if_pos hc3))).symm) | (unfold whatC; rw [if_neg hIe6, if_neg hIe10, if_pos hc1]; rfl) | (unfold whatC; rw [if_neg hIe6, if_neg hIe10, if_neg hIe12, if_pos hc0]; rfl) | (unfold whatC; (repeat' split) <;> first | rfl | (exfalso; omega) | (exfalso; simp_all; done)), rfl⟩, by first | rfl | (rw [hk10]; exact (congrArg whatV (if_pos hc8)).symm) | (rw [hk11]; exact (congrArg whatV ((if_pos ⟨rfl, rfl, hts0⟩).trans (if_pos hc3))).symm) | (unfold whatC; rw [if_neg hIe6, if_neg hIe10, if_pos hc1]; rfl) | (unfold whatC; rw [if_neg hIe6, if_neg hIe10, if_neg hIe12, if_pos hc0]; rfl) | (unfold whatC; (repeat' split) <;> first | rfl | (exfalso; omega) | (exfalso; simp_all; done))⟩)
    ·(try simp only [sH] at h11)
     refine ygz ?_
     refine ygz ?_
     refine ygz ?_
     refine ypb ?_
     refine ymv ?_
     refine ygz ?_
     refine ygz ?_
     refine ypb ?_
     refine yas ?_
     refine ynil' (kthn (hK7 _ _ ?_))
     clear hK7
     refine ccond0 rfl ?_
     refine cskip' (kbn (kthn (hK3 _ _ ?_)))
     clear hK3
     refine cseq ?_; intro K11 hK11
     refine creg ?_
     refine yas ?_
     refine ynil' (kthn (hK11 _ _ ?_))
     clear hK11
     refine cret ?_
     first
       | (exfalso; omega; done)
       | (refine kretv Tryz.results67 rfl (L1 := [caP A C] ++ R) zge ?_
          exact ⟨_, ⟨by first | rfl | (rw [hk10]; exact (congrArg whatV (if_pos hc8)).symm) | (rw [hk11]; exact (congrArg whatV ((if_pos ⟨rfl, rfl, hts0⟩).trans (if_pos hc3))).symm) | (unfold whatC; rw [if_neg hIe6, if_neg hIe10, if_pos hc1]; rfl) | (unfold whatC; rw [if_neg hIe6, if_neg hIe10, if_neg hIe12, if_pos hc0]; rfl) | (unfold whatC; (repeat' split) <;> first | rfl | (exfalso; omega) | (exfalso; simp_all; done)), rfl⟩, by first | rfl | (rw [hk10]; exact (congrArg whatV (if_pos hc8)).symm) | (rw [hk11]; exact (congrArg whatV ((if_pos ⟨rfl, rfl, hts0⟩).trans (if_pos hc3))).symm) | (unfold whatC; rw [if_neg hIe6, if_neg hIe10, if_pos hc1]; rfl) | (unfold whatC; rw [if_neg hIe6, if_neg hIe10, if_neg hIe12, if_pos hc0]; rfl) | (unfold whatC; (repeat' split) <;> first | rfl | (exfalso; omega) | (exfalso; simp_all; done))⟩))
   refine creg ?_
   refine y (ev_fieldAddr 0 rfl Tryz.underlying126 rfl Tryz.sizeOf3) rfl ?_
   refine y (ev_load rfl Tryz.isAgg3 zin rfl) rfl ?_
   refine y (ev_eql rfl rfl) rfl ?_
   refine ymv ?_
   refine ysplit 131 rfl (fun h39 => ?_) (fun h39 => ?_)
   ·(try simp only [sH] at h39)
    refine ygo ?_
    refine ymv ?_
    refine ygo ?_
    refine y (ev_lenV rfl Tryz.underlying56 hvl) rfl ?_
    refine ygo ?_
    refine y (ev_eql rfl rfl) rfl ?_
    refine ypa ?_
    refine ymv ?_
    refine ysplit 136 rfl (fun h45 => ?_) (fun h45 => ?_)
    ·(try simp only [sH] at h45)
     refine ygo ?_
     refine ymv ?_
     refine ygo ?_
     refine y (ev_eql rfl rfl) rfl ?_
     refine ypa ?_
     refine ymv ?_
     refine ysplit 140 rfl (fun h50 => ?_) (fun h50 => ?_)
     ·(try simp only [sH] at h50)
      obtain ⟨x0, rfl⟩ := len1 (l := ns) (by omega)
      refine ygo ?_
      refine ymv ?_
      refine ygo ?_
      refine ymv ?_
      refine ygo ?_
      first
        | refine y (ev_ixAddr rfl rfl Tryz.underlying56 Tryz.sizeOf2 (by omega) (by omega)) rfl ?_
        | refine y (ev_ixV (by assumption) rfl rfl Tryz.underlying56 Tryz.sizeOf2 (by omega) (by omega)) rfl ?_
      refine ygo ?_
      refine y (ev_loadV 0 hv zge rfl Tryz.isAgg2 (by first | rfl | simp) rfl) rfl ?_
      refine ygo ?_
      refine ycall (kIn ?bl55) rfl Tryz.call38 ztk rfl ?_
      case bl55 => exact hb
      rintro v L' ⟨rfl, rfl⟩
      refine ypa ?_
      refine yas ?_
      refine ynil' (kthn (hK6 _ _ ?_))
      clear hK6
      refine ccond rfl (fun h58 => ?_) (fun h58 => ?_)
      ·(try simp only [sH] at h58)
       have hc1 : kind = 12 ∧ [x0].length = 1 ∧ ts.length = 0 ∧ inB C.bl x0 = true := ⟨by omega, rfl, by omega, by assumption⟩
       refine cseq ?_; intro K12 hK12
       refine creg ?_
       refine ymv ?_
       first
         | refine y (ev_ixAddr rfl rfl Tryz.underlying56 Tryz.sizeOf2 (by omega) (by omega)) rfl ?_
         | refine y (ev_ixV (by assumption) rfl rfl Tryz.underlying56 Tryz.sizeOf2 (by omega) (by omega)) rfl ?_
       refine y (ev_loadV 0 hv zge rfl Tryz.isAgg2 (by first | rfl | simp) rfl) rfl ?_
       refine y (ev_build (zs := _) rfl Tryz.underlying93 Tryz.zeroValue93 rfl (.cons Tryz.sizeOf3 .nil) ⟨⟨_, _, rfl, (by first | rfl | simp), (by first | decide | simp)⟩, trivial⟩ (by dsimp [fillL, splice, vcells] <;> rfl)) rfl ?_
       refine y (ev_iface rfl (by kernel_rfl)) rfl ?_
       refine yas ?_
       refine ynil' (kthn (hK12 _ _ ?_))
       clear hK12
       refine cret (kbr (kthr ?_))
       first
         | (exfalso; omega; done)
         | (refine kretv Tryz.results67 rfl (L1 := [caP A C] ++ R) zge ?_
            exact ⟨_, ⟨by first | rfl | (rw [hk10]; exact (congrArg whatV (if_pos hc8)).symm) | (rw [hk11]; exact (congrArg whatV ((if_pos ⟨rfl, rfl, hts0⟩).trans (if_pos hc3))).symm) | (unfold whatC; rw [if_neg hIe6, if_neg hIe10, if_pos hc1]; rfl) | (unfold whatC; rw [if_neg hIe6, if_neg hIe10, if_neg hIe12, if_pos hc0]; rfl) | (unfold whatC; (repeat' split) <;> first | rfl | (exfalso; omega) | (exfalso; simp_all; done)), rfl⟩, by first | rfl | (rw [hk10]; exact (congrArg whatV (if_pos hc8)).symm) | (rw [hk11]; exact (congrArg whatV ((if_pos ⟨rfl, rfl, hts0⟩).trans (if_pos hc3))).symm) | (unfold whatC; rw [if_neg hIe6, if_neg hIe10, if_pos hc1]; rfl) | (unfold whatC; rw [if_neg hIe6, if_neg hIe10, if_neg hIe12, if_pos hc0]; rfl) | (unfold whatC; (repeat' split) <;> first | rfl | (exfalso; omega) | (exfalso; simp_all; done))⟩)
      ·(try simp only [sH] at h58)
       exact csub zsub zge (hJe12 (by first | omega | (simp_all; done)))
     ·(try simp only [sH] at h50)
      refine ygz ?_
      refine ygz ?_
      refine ygz ?_
      refine ygz ?_
      refine ygz ?_
      refine ypb ?_
      refine yas ?_
      refine ynil' (kthn (hK6 _ _ ?_))
      clear hK6
      refine ccond0 rfl ?_
      exact csub zsub zge (hJe12 (by first | omega | (simp_all; done)))
    ·(try simp only [sH] at h45)
     refine ygz ?_
     refine ygz ?_
     refine ypb ?_
     refine ymv ?_
     refine ygz ?_
     refine ygz ?_
     refine ygz ?_
     refine ygz ?_
     refine ygz ?_
     refine ypb ?_
     refine yas ?_
     refine ynil' (kthn (hK6 _ _ ?_))
     clear hK6
     refine ccond0 rfl ?_
     exact csub zsub zge (hJe12 (by first | omega | (simp_all; done)))
   ·(try simp only [sH] at h39)
    refine ygz ?_
    refine ygz ?_
    refine ygz ?_
    refine ypb ?_
    refine ymv ?_
    refine ygz ?_
    refine ygz ?_
    refine ypb ?_
    refine ymv ?_
    refine ygz ?_
    refine ygz ?_
    refine ygz ?_
    refine ygz ?_
    refine ygz ?_
    refine ypb ?_
    refine yas ?_
    refine ynil' (kthn (hK6 _ _ ?_))
    clear hK6
    refine ccond0 rfl ?_
    exact csub zsub zge (hJe12 (by first | omega | (simp_all; done))))
  refine creg ?_
  refine y (ev_fieldAddr 0 rfl Tryz.underlying126 rfl Tryz.sizeOf3) rfl ?_
  refine y (ev_load rfl Tryz.isAgg3 zin rfl) rfl ?_
  refine y (ev_eql rfl rfl) rfl ?_
  refine ymv ?_
  refine ysplit 95 rfl (fun h81 => ?_) (fun h81 => ?_)
  ·(try simp only [sH] at h81)
   refine ygo ?_
   refine ymv ?_
   refine ygo ?_
   refine y (ev_lenV rfl Tryz.underlying56 hvl) rfl ?_
   refine ygo ?_
   refine y (ev_eql rfl rfl) rfl ?_
   refine ypa ?_
   refine ymv ?_
   refine ysplit 100 rfl (fun h87 => ?_) (fun h87 => ?_)
   ·(try simp only [sH] at h87)
    refine ygo ?_
    refine ymv ?_
    refine ygo ?_
    refine y (ev_eql rfl rfl) rfl ?_
    refine ypa ?_
    refine yas ?_
    refine ynil' (kthn (hK5 _ _ ?_))
    clear hK5
    refine ccond rfl (fun h92 => ?_) (fun h92 => ?_)
    ·(try simp only [sH] at h92)
     have hk11 : kind = 11 := by omega
     have hts0 : ts.length = 0 := by omega
     obtain ⟨x0, x1, x2, rfl⟩ := len3 (l := ns) (by omega)
     refine cseq ?_; intro K13 hK13
     refine cdraw 12 [(0, true), (1, true), (2, true), (3, true), (4, true), (5, true), (6, true), (7, true), (8, true), (9, true), (10, true), (11, false)] (_) Tryz.mixed (by kernel_rfl) .refl ?_
     refine hr rfl (ev_move rfl) rfl ?_
     first
       | refine hr rfl (ev_ixAddr rfl rfl Tryz.underlying56 Tryz.sizeOf2 (by omega) (by omega)) rfl ?_
       | refine hr rfl (ev_ixV (by assumption) rfl rfl Tryz.underlying56 Tryz.sizeOf2 (by omega) (by omega)) rfl ?_
     refine hr rfl (ev_loadV 0 hv zge rfl Tryz.isAgg2 (by first | rfl | simp) rfl) rfl ?_
     refine hr rfl (ev_move rfl) rfl ?_
     first
       | refine hr rfl (ev_ixAddr rfl rfl Tryz.underlying56 Tryz.sizeOf2 (by omega) (by omega)) rfl ?_
       | refine hr rfl (ev_ixV (by assumption) rfl rfl Tryz.underlying56 Tryz.sizeOf2 (by omega) (by omega)) rfl ?_
     refine hr rfl (ev_loadV 1 hv zge rfl Tryz.isAgg2 (by first | rfl | simp) rfl) rfl ?_
     refine hr rfl (ev_move rfl) rfl ?_
     first
       | refine hr rfl (ev_ixAddr rfl rfl Tryz.underlying56 Tryz.sizeOf2 (by omega) (by omega)) rfl ?_
       | refine hr rfl (ev_ixV (by assumption) rfl rfl Tryz.underlying56 Tryz.sizeOf2 (by omega) (by omega)) rfl ?_
     refine hr rfl (ev_loadV 2 hv zge rfl Tryz.isAgg2 (by first | rfl | simp) rfl) rfl ?_
     refine hr rfl (ev_build (zs := _) rfl Tryz.underlying31 Tryz.zeroValue31 rfl (.cons Tryz.sizeOf2 (.cons Tryz.sizeOf2 .nil)) ⟨⟨_, _, rfl, (by first | rfl | simp), (by first | decide | simp)⟩, ⟨⟨_, _, rfl, (by first | rfl | simp), (by first | decide | simp)⟩, trivial⟩⟩ (by dsimp [fillL, splice, vcells] <;> rfl)) rfl ?_
     refine hr rfl (ev_build (zs := _) rfl Tryz.underlying95 Tryz.zeroValue95 rfl (.cons Tryz.sizeOf3 (.cons Tryz.sizeOf31 .nil)) ⟨⟨_, _, rfl, (by first | rfl | simp), (by first | decide | simp)⟩, ⟨⟨_, _, rfl, (by first | rfl | simp), (by first | decide | simp)⟩, trivial⟩⟩ (by dsimp [fillL, splice, vcells] <;> rfl)) rfl ?_
     refine ha rfl (ac_alloc Tryz.zeroValue95 rfl) rfl ?_
     rintro v L' ⟨b9, rfl, rfl⟩; refine ⟨zge, ?_⟩
     refine hnil ?_
     refine ya0 (ac_storeAll rfl rfl (by first | exact bytesV_one _ | (simp [Value.oneCell']; done) | (simp only [List.forall_mem_cons, List.not_mem_nil, false_implies, implies_true, svVal_one, and_true, true_and, and_self]; first | done | simp [Value.oneCell'])) Tryz.sizeOf95 zrp (by first | rfl | assumption | (simp [*]; done) | (simp [*]; omega)) (by first | rfl | assumption | (simp [*]; done) | (simp [*]; omega))) ?_
     rintro v L' ⟨rfl, rfl⟩
     refine hnoP' (kthn (hK13 _ _ ?_))
     clear hK13
     refine cseq ?_; intro K14 hK14
     refine creg ?_
     refine ymv ?_
     refine ymv ?_
     first
       | refine y (ev_ixAddr rfl rfl Tryz.underlying56 Tryz.sizeOf2 (by omega) (by omega)) rfl ?_
       | refine y (ev_ixV (by assumption) rfl rfl Tryz.underlying56 Tryz.sizeOf2 (by omega) (by omega)) rfl ?_
     refine y (ev_loadV 0 hv zge rfl Tryz.isAgg2 (by first | rfl | simp) rfl) rfl ?_
     refine ycall (kIn ?bl110) rfl Tryz.call38 ztk rfl ?_
     case bl110 => exact hb
     rintro v L' ⟨rfl, rfl⟩
     refine ymv ?_
     refine ysplit 120 rfl (fun h112 => ?_) (fun h112 => ?_)
     ·(try simp only [sH] at h112)
      refine ygo ?_
      refine y (ev_fieldAddr 1 rfl Tryz.underlying95 rfl Tryz.sizeOf31) rfl ?_
      refine ygo ?_
      refine y (ev_loadN (u := [i64 x1, i64 x2]) rfl Tryz.isAgg31 Tryz.sizeOf31 zin rfl rfl) rfl ?_
      refine ygo ?_
      refine ycall (kMay) rfl Tryz.call40 ztk rfl ?_
      rintro v L' ⟨rfl, rfl⟩
      refine ypa ?_
      refine ynil' (kthn (hK14 _ _ ?_))
      clear hK14
      refine ccond rfl (fun h117 => ?_) (fun h117 => ?_)
      ·(try simp only [sH] at h117)
       have hc3 : inB C.bl x0 = true ∧ mayV x1 x2 1 = true := ⟨by assumption, by assumption⟩
       refine cseq ?_; intro K15 hK15
       refine creg ?_
       refine y (ev_loadAll rfl Tryz.isAgg95 Tryz.sizeOf95 zin (by first | rfl | assumption | (simp [*]; done) | (simp [*]; omega))) rfl ?_
       refine y (ev_iface rfl (by kernel_rfl)) rfl ?_
       refine yas ?_
       refine ynil' (kthn (hK15 _ _ ?_))
       clear hK15
       refine cret (kbr (kthr ?_))
       first
         | (exfalso; omega; done)
         | (refine kretv Tryz.results67 rfl (L1 := [caP A C] ++ R) zge ?_
            exact ⟨_, ⟨by first | rfl | (rw [hk10]; exact (congrArg whatV (if_pos hc8)).symm) | (rw [hk11]; exact (congrArg whatV ((if_pos ⟨rfl, rfl, hts0⟩).trans (if_pos hc3))).symm) | (unfold whatC; rw [if_neg hIe6, if_neg hIe10, if_pos hc1]; rfl) | (unfold whatC; rw [if_neg hIe6, if_neg hIe10, if_neg hIe12, if_pos hc0]; rfl) | (unfold whatC; (repeat' split) <;> first | rfl | (exfalso; omega) | (exfalso; simp_all; done)), rfl⟩, by first | rfl | (rw [hk10]; exact (congrArg whatV (if_pos hc8)).symm) | (rw [hk11]; exact (congrArg whatV ((if_pos ⟨rfl, rfl, hts0⟩).trans (if_pos hc3))).symm) | (unfold whatC; rw [if_neg hIe6, if_neg hIe10, if_pos hc1]; rfl) | (unfold whatC; rw [if_neg hIe6, if_neg hIe10, if_neg hIe12, if_pos hc0]; rfl) | (unfold whatC; (repeat' split) <;> first | rfl | (exfalso; omega) | (exfalso; simp_all; done))⟩)
      ·(try simp only [sH] at h117)
       refine cskip' (kbn (kthn (hK3 _ _ ?_)))
       clear hK3
       refine cseq ?_; intro K16 hK16
       refine creg ?_
       refine yas ?_
       refine ynil' (kthn (hK16 _ _ ?_))
       clear hK16
       refine cret ?_
       first
         | (exfalso; omega; done)
         | (refine kretv Tryz.results67 rfl (L1 := [caP A C] ++ R) zge ?_
            exact ⟨_, ⟨by first | rfl | (rw [hk10]; exact (congrArg whatV (if_pos hc8)).symm) | (rw [hk11]; exact (congrArg whatV ((if_pos ⟨rfl, rfl, hts0⟩).trans (if_pos hc3))).symm) | (unfold whatC; rw [if_neg hIe6, if_neg hIe10, if_pos hc1]; rfl) | (unfold whatC; rw [if_neg hIe6, if_neg hIe10, if_neg hIe12, if_pos hc0]; rfl) | (unfold whatC; (repeat' split) <;> first | rfl | (exfalso; omega) | (exfalso; simp_all; done)), rfl⟩, by first | rfl | (rw [hk10]; exact (congrArg whatV (if_pos hc8)).symm) | (rw [hk11]; exact (congrArg whatV ((if_pos ⟨rfl, rfl, hts0⟩).trans (if_pos hc3))).symm) | (unfold whatC; rw [if_neg hIe6, if_neg hIe10, if_pos hc1]; rfl) | (unfold whatC; rw [if_neg hIe6, if_neg hIe10, if_neg hIe12, if_pos hc0]; rfl) | (unfold whatC; (repeat' split) <;> first | rfl | (exfalso; omega) | (exfalso; simp_all; done))⟩)
     ·(try simp only [sH] at h112)
      refine ygz ?_
      refine ygz ?_
      refine ygz ?_
      refine ypb ?_
      refine ynil' (kthn (hK14 _ _ ?_))
      clear hK14
      refine ccond0 rfl ?_
      refine cskip' (kbn (kthn (hK3 _ _ ?_)))
      clear hK3
      refine cseq ?_; intro K17 hK17
      refine creg ?_
      refine yas ?_
      refine ynil' (kthn (hK17 _ _ ?_))
      clear hK17
      refine cret ?_
      first
        | (exfalso; omega; done)
        | (refine kretv Tryz.results67 rfl (L1 := [caP A C] ++ R) zge ?_
           exact ⟨_, ⟨by first | rfl | (rw [hk10]; exact (congrArg whatV (if_pos hc8)).symm) | (rw [hk11]; exact (congrArg whatV ((if_pos ⟨rfl, rfl, hts0⟩).trans (if_pos hc3))).symm) | (unfold whatC; rw [if_neg hIe6, if_neg hIe10, if_pos hc1]; rfl) | (unfold whatC; rw [if_neg hIe6, if_neg hIe10, if_neg hIe12, if_pos hc0]; rfl) | (unfold whatC; (repeat' split) <;> first | rfl | (exfalso; omega) | (exfalso; simp_all; done)), rfl⟩, by first | rfl | (rw [hk10]; exact (congrArg whatV (if_pos hc8)).symm) | (rw [hk11]; exact (congrArg whatV ((if_pos ⟨rfl, rfl, hts0⟩).trans (if_pos hc3))).symm) | (unfold whatC; rw [if_neg hIe6, if_neg hIe10, if_pos hc1]; rfl) | (unfold whatC; rw [if_neg hIe6, if_neg hIe10, if_neg hIe12, if_pos hc0]; rfl) | (unfold whatC; (repeat' split) <;> first | rfl | (exfalso; omega) | (exfalso; simp_all; done))⟩)
    ·(try simp only [sH] at h92)
     exact csub zsub zge (hJe10 (by omega))
   ·(try simp only [sH] at h87)
    refine ygz ?_
    refine ygz ?_
    refine ypb ?_
    refine yas ?_
    refine ynil' (kthn (hK5 _ _ ?_))
    clear hK5
    refine ccond0 rfl ?_
    exact csub zsub zge (hJe10 (by omega))
  ·(try simp only [sH] at h81)
   refine ygz ?_
   refine ygz ?_
   refine ygz ?_
   refine ypb ?_
   refine ymv ?_
   refine ygz ?_
   refine ygz ?_
   refine ypb ?_
   refine yas ?_
   refine ynil' (kthn (hK5 _ _ ?_))
   clear hK5
   refine ccond0 rfl ?_
   exact csub zsub zge (hJe10 (by omega)))
 refine creg ?_
 refine y (ev_fieldAddr 0 rfl Tryz.underlying126 rfl Tryz.sizeOf3) rfl ?_
 refine y (ev_load rfl Tryz.isAgg3 zin rfl) rfl ?_
 refine y (ev_eql rfl rfl) rfl ?_
 refine ymv ?_
 refine ysplit 17 rfl (fun h134 => ?_) (fun h134 => ?_)
 ·(try simp only [sH] at h134)
  refine ygo ?_
  refine ymv ?_
  refine ygo ?_
  refine y (ev_lenV rfl Tryz.underlying56 hvl) rfl ?_
  refine ygo ?_
  refine y (ev_eql rfl rfl) rfl ?_
  refine ypa ?_
  refine ymv ?_
  refine ysplit 22 rfl (fun h140 => ?_) (fun h140 => ?_)
  ·(try simp only [sH] at h140)
   refine ygo ?_
   refine ymv ?_
   refine ygo ?_
   refine y (ev_eql rfl rfl) rfl ?_
   refine ypa ?_
   refine yas ?_
   refine ynil' (kthn (hK4 _ _ ?_))
   clear hK4
   refine ccond rfl (fun h145 => ?_) (fun h145 => ?_)
   ·(try simp only [sH] at h145)
    obtain ⟨x0, x1, x2, x3, x4, x5, rfl⟩ := len6 (l := ns) (by omega)
    obtain ⟨tx, rfl⟩ := len1 (l := ts) (by omega)
    have hk10 : kind = 10 := by omega
    refine cseq ?_; intro K18 hK18
    refine cdraw 27 [(0, true), (1, true), (2, true), (3, true), (4, true), (5, true), (6, true), (7, true), (8, true), (9, true), (10, true), (11, true), (12, true), (13, true), (14, true), (15, true), (16, true), (17, true), (18, true), (19, true), (20, true), (21, true), (22, true), (23, true), (24, true), (25, true), (26, false)] (_) Tryz.mixed (by kernel_rfl) .refl ?_
    refine hr rfl (ev_move rfl) rfl ?_
    first
      | refine hr rfl (ev_ixAddr rfl rfl Tryz.underlying56 Tryz.sizeOf2 (by omega) (by omega)) rfl ?_
      | refine hr rfl (ev_ixV (by assumption) rfl rfl Tryz.underlying56 Tryz.sizeOf2 (by omega) (by omega)) rfl ?_
    refine hr rfl (ev_loadV 0 hv zge rfl Tryz.isAgg2 (by first | rfl | simp) rfl) rfl ?_
    refine hr rfl (ev_move rfl) rfl ?_
    first
      | refine hr rfl (ev_ixAddr rfl rfl Tryz.underlying56 Tryz.sizeOf2 (by omega) (by omega)) rfl ?_
      | refine hr rfl (ev_ixV (by assumption) rfl rfl Tryz.underlying56 Tryz.sizeOf2 (by omega) (by omega)) rfl ?_
    refine hr rfl (ev_loadV 1 hv zge rfl Tryz.isAgg2 (by first | rfl | simp) rfl) rfl ?_
    refine hr rfl (ev_move rfl) rfl ?_
    first
      | refine hr rfl (ev_ixAddr rfl rfl Tryz.underlying56 Tryz.sizeOf2 (by omega) (by omega)) rfl ?_
      | refine hr rfl (ev_ixV (by assumption) rfl rfl Tryz.underlying56 Tryz.sizeOf2 (by omega) (by omega)) rfl ?_
    refine hr rfl (ev_loadV 2 hv zge rfl Tryz.isAgg2 (by first | rfl | simp) rfl) rfl ?_
    refine hr rfl (ev_build (zs := _) rfl Tryz.underlying31 Tryz.zeroValue31 rfl (.cons Tryz.sizeOf2 (.cons Tryz.sizeOf2 .nil)) ⟨⟨_, _, rfl, (by first | rfl | simp), (by first | decide | simp)⟩, ⟨⟨_, _, rfl, (by first | rfl | simp), (by first | decide | simp)⟩, trivial⟩⟩ (by dsimp [fillL, splice, vcells] <;> rfl)) rfl ?_
    refine hr rfl (ev_fieldAddr 2 rfl Tryz.underlying126 rfl Tryz.sizeOf98) rfl ?_
    refine hr rfl (ev_load rfl Tryz.isAgg98 zin rfl) rfl ?_
    first
      | refine hr rfl (ev_ixAddr rfl rfl Tryz.underlying98 Tryz.sizeOf9 (by omega) (by omega)) rfl ?_
      | refine hr rfl (ev_ixV (by assumption) rfl rfl Tryz.underlying98 Tryz.sizeOf9 (by omega) (by omega)) rfl ?_
    refine hr rfl (ev_loadV 0 htv zge rfl Tryz.isAgg9 (by simp) rfl) rfl ?_
    refine hr rfl (ev_move rfl) rfl ?_
    first
      | refine hr rfl (ev_ixAddr rfl rfl Tryz.underlying56 Tryz.sizeOf2 (by omega) (by omega)) rfl ?_
      | refine hr rfl (ev_ixV (by assumption) rfl rfl Tryz.underlying56 Tryz.sizeOf2 (by omega) (by omega)) rfl ?_
    refine hr rfl (ev_loadV 3 hv zge rfl Tryz.isAgg2 (by first | rfl | simp) rfl) rfl ?_
    refine hr rfl (ev_eql rfl rfl) rfl ?_
    refine hr rfl (ev_move rfl) rfl ?_
    first
      | refine hr rfl (ev_ixAddr rfl rfl Tryz.underlying56 Tryz.sizeOf2 (by omega) (by omega)) rfl ?_
      | refine hr rfl (ev_ixV (by assumption) rfl rfl Tryz.underlying56 Tryz.sizeOf2 (by omega) (by omega)) rfl ?_
    refine hr rfl (ev_loadV 4 hv zge rfl Tryz.isAgg2 (by first | rfl | simp) rfl) rfl ?_
    refine hr rfl (ev_move rfl) rfl ?_
    first
      | refine hr rfl (ev_ixAddr rfl rfl Tryz.underlying56 Tryz.sizeOf2 (by omega) (by omega)) rfl ?_
      | refine hr rfl (ev_ixV (by assumption) rfl rfl Tryz.underlying56 Tryz.sizeOf2 (by omega) (by omega)) rfl ?_
    refine hr rfl (ev_loadV 5 hv zge rfl Tryz.isAgg2 (by first | rfl | simp) rfl) rfl ?_
    refine hr rfl (ev_build (zs := _) rfl Tryz.underlying34 Tryz.zeroValue34 rfl (.cons Tryz.sizeOf3 (.cons Tryz.sizeOf31 (.cons Tryz.sizeOf9 (.cons Tryz.sizeOf4 (.cons Tryz.sizeOf3 (.cons Tryz.sizeOf2 .nil)))))) ⟨⟨_, _, rfl, (by first | rfl | simp), (by first | decide | simp)⟩, ⟨⟨_, _, rfl, (by first | rfl | simp), (by first | decide | simp)⟩, ⟨⟨_, _, rfl, (by first | rfl | simp), (by first | decide | simp)⟩, ⟨⟨_, _, rfl, (by first | rfl | simp), (by first | decide | simp)⟩, ⟨⟨_, _, rfl, (by first | rfl | simp), (by first | decide | simp)⟩, ⟨⟨_, _, rfl, (by first | rfl | simp), (by first | decide | simp)⟩, trivial⟩⟩⟩⟩⟩⟩ (by dsimp [fillL, splice, vcells] <;> rfl)) rfl ?_
    refine hr rfl (ev_build (zs := _) rfl Tryz.underlying89 Tryz.zeroValue89 rfl (.cons Tryz.sizeOf34 .nil) ⟨⟨_, _, rfl, (by first | rfl | simp), (by first | decide | simp)⟩, trivial⟩ (by dsimp [fillL, splice, vcells] <;> rfl)) rfl ?_
    refine ha rfl (ac_alloc Tryz.zeroValue89 rfl) rfl ?_
    rintro v L' ⟨b8, rfl, rfl⟩; refine ⟨zge, ?_⟩
    refine hnil ?_
    refine ya0 (ac_storeAll rfl rfl (by first | exact bytesV_one _ | (simp [Value.oneCell']; done) | (simp only [List.forall_mem_cons, List.not_mem_nil, false_implies, implies_true, svVal_one, and_true, true_and, and_self]; first | done | simp [Value.oneCell'])) Tryz.sizeOf89 zrp (by first | rfl | assumption | (simp [*]; done) | (simp [*]; omega)) (by first | rfl | assumption | (simp [*]; done) | (simp [*]; omega))) ?_
    rintro v L' ⟨rfl, rfl⟩
    refine hnoP' (kthn (hK18 _ _ ?_))
    clear hK18
    refine cseq ?_; intro K19 hK19
    refine creg ?_
    refine ymv ?_
    refine ymv ?_
    first
      | refine y (ev_ixAddr rfl rfl Tryz.underlying56 Tryz.sizeOf2 (by omega) (by omega)) rfl ?_
      | refine y (ev_ixV (by assumption) rfl rfl Tryz.underlying56 Tryz.sizeOf2 (by omega) (by omega)) rfl ?_
    refine y (ev_loadV 0 hv zge rfl Tryz.isAgg2 (by first | rfl | simp) rfl) rfl ?_
    refine ycall (kIn ?bl178) rfl Tryz.call38 ztk rfl ?_
    case bl178 => exact hb
    rintro v L' ⟨rfl, rfl⟩
    refine ymv ?_
    refine ysplit 57 rfl (fun h180 => ?_) (fun h180 => ?_)
    ·(try simp only [sH] at h180)
     refine ygo ?_
     refine y (ev_fieldAddr 0 rfl Tryz.underlying89 rfl Tryz.sizeOf34) rfl ?_
     refine ygo ?_
     refine y (ev_fieldAddr 1 rfl Tryz.underlying34 rfl Tryz.sizeOf31) rfl ?_
     refine ygo ?_
     refine y (ev_loadN (u := [i64 x1, i64 x2]) rfl Tryz.isAgg31 Tryz.sizeOf31 zin rfl rfl) rfl ?_
     refine ygo ?_
     refine ycall (kMay) rfl Tryz.call40 ztk rfl ?_
     rintro v L' ⟨rfl, rfl⟩
     refine ypa ?_
     refine ymv ?_
     refine ysplit 63 rfl (fun h187 => ?_) (fun h187 => ?_)
     ·(try simp only [sH] at h187)
      refine ygo ?_
      refine ymv ?_
      refine ygo ?_
      first
        | refine y (ev_ixAddr rfl rfl Tryz.underlying56 Tryz.sizeOf2 (by omega) (by omega)) rfl ?_
        | refine y (ev_ixV (by assumption) rfl rfl Tryz.underlying56 Tryz.sizeOf2 (by omega) (by omega)) rfl ?_
      refine ygo ?_
      refine y (ev_loadV 3 hv zge rfl Tryz.isAgg2 (by first | rfl | simp) rfl) rfl ?_
      refine ygo ?_
      refine ycall (kWithin) rfl Tryz.call41 ztk rfl ?_
      rintro v L' ⟨rfl, rfl⟩
      refine ypa ?_
      refine ymv ?_
      refine ysplit 69 rfl (fun h194 => ?_) (fun h194 => ?_)
      ·(try simp only [sH] at h194)
       refine ygo ?_
       refine ymv ?_
       refine ygo ?_
       first
         | refine y (ev_ixAddr rfl rfl Tryz.underlying56 Tryz.sizeOf2 (by omega) (by omega)) rfl ?_
         | refine y (ev_ixV (by assumption) rfl rfl Tryz.underlying56 Tryz.sizeOf2 (by omega) (by omega)) rfl ?_
       refine ygo ?_
       refine y (ev_loadV 4 hv zge rfl Tryz.isAgg2 (by first | rfl | simp) rfl) rfl ?_
       refine ygo ?_
       refine ycall (kWithin) rfl Tryz.call41 ztk rfl ?_
       rintro v L' ⟨rfl, rfl⟩
       refine ypa ?_
       refine ymv ?_
       refine ysplit 75 rfl (fun h201 => ?_) (fun h201 => ?_)
       ·(try simp only [sH] at h201)
        refine ygo ?_
        refine ymv ?_
        refine ygo ?_
        first
          | refine y (ev_ixAddr rfl rfl Tryz.underlying56 Tryz.sizeOf2 (by omega) (by omega)) rfl ?_
          | refine y (ev_ixV (by assumption) rfl rfl Tryz.underlying56 Tryz.sizeOf2 (by omega) (by omega)) rfl ?_
        refine ygo ?_
        refine y (ev_loadV 5 hv zge rfl Tryz.isAgg2 (by first | rfl | simp) rfl) rfl ?_
        refine ygo ?_
        refine ycall (kOdd) rfl Tryz.call42 ztk rfl ?_
        rintro v L' ⟨rfl, rfl⟩
        refine ygo ?_
        refine y (ev_not rfl) rfl ?_
        refine ypa ?_
        refine ymv ?_
        refine ysplit 82 rfl (fun h209 => ?_) (fun h209 => ?_)
        ·(try simp only [sH] at h209)
         refine ygo ?_
         refine y (ev_fieldAddr 0 rfl Tryz.underlying89 rfl Tryz.sizeOf34) rfl ?_
         refine ygo ?_
         refine y (ev_fieldAddr 3 rfl Tryz.underlying34 rfl Tryz.sizeOf9) rfl ?_
         refine ygo ?_
         refine y (ev_load rfl Tryz.isAgg9 zin rfl) rfl ?_
         refine ygo ?_
         first
           | refine y (ev_lenStr rfl Tryz.underlying9) rfl ?_
           | refine y (ev_lenS rfl Tryz.underlying9) rfl ?_
         refine ygo ?_
         refine y (ev_eql rfl rfl) rfl ?_
         refine ypa ?_
         refine ynil' (kthn (hK19 _ _ ?_))
         clear hK19
         refine ccond rfl (fun h216 => ?_) (fun h216 => ?_)
         ·(try simp only [sH] at h216)
          have hc8 : inB C.bl x0 = true ∧ mayV x1 x2 1 = true ∧ within3 x3 0 1 = true ∧ within3 x4 (-1) 3 = true ∧ oddN x5 = false ∧ tx.length = 8 := ⟨by assumption, by assumption, by assumption, by assumption, by assumption, by omega⟩
          refine cseq ?_; intro K20 hK20
          refine creg ?_
          refine y (ev_loadAll rfl Tryz.isAgg89 Tryz.sizeOf89 zin (by first | rfl | assumption | (simp [*]; done) | (simp [*]; omega))) rfl ?_
          refine y (ev_iface rfl (by kernel_rfl)) rfl ?_
          refine yas ?_
          refine ynil' (kthn (hK20 _ _ ?_))
          clear hK20
          refine cret (kbr (kthr ?_))
          first
            | (exfalso; omega; done)
            | (refine kretv Tryz.results67 rfl (L1 := [caP A C] ++ R) zge ?_
               exact ⟨_, ⟨by first | rfl | (rw [hk10]; exact (congrArg whatV (if_pos hc8)).symm) | (rw [hk11]; exact (congrArg whatV ((if_pos ⟨rfl, rfl, hts0⟩).trans (if_pos hc3))).symm) | (unfold whatC; rw [if_neg hIe6, if_neg hIe10, if_pos hc1]; rfl) | (unfold whatC; rw [if_neg hIe6, if_neg hIe10, if_neg hIe12, if_pos hc0]; rfl) | (unfold whatC; (repeat' split) <;> first | rfl | (exfalso; omega) | (exfalso; simp_all; done)), rfl⟩, by first | rfl | (rw [hk10]; exact (congrArg whatV (if_pos hc8)).symm) | (rw [hk11]; exact (congrArg whatV ((if_pos ⟨rfl, rfl, hts0⟩).trans (if_pos hc3))).symm) | (unfold whatC; rw [if_neg hIe6, if_neg hIe10, if_pos hc1]; rfl) | (unfold whatC; rw [if_neg hIe6, if_neg hIe10, if_neg hIe12, if_pos hc0]; rfl) | (unfold whatC; (repeat' split) <;> first | rfl | (exfalso; omega) | (exfalso; simp_all; done))⟩)
         ·(try simp only [sH] at h216)
          have hn8 : ¬ tx.length = 8 := by omega
          refine cskip' (kbn (kthn (hK3 _ _ ?_)))
          clear hK3
          refine cseq ?_; intro K21 hK21
          refine creg ?_
          refine yas ?_
          refine ynil' (kthn (hK21 _ _ ?_))
          clear hK21
          refine cret ?_
          first
            | (exfalso; omega; done)
            | (refine kretv Tryz.results67 rfl (L1 := [caP A C] ++ R) zge ?_
               exact ⟨_, ⟨by first | rfl | (rw [hk10]; exact (congrArg whatV (if_pos hc8)).symm) | (rw [hk11]; exact (congrArg whatV ((if_pos ⟨rfl, rfl, hts0⟩).trans (if_pos hc3))).symm) | (unfold whatC; rw [if_neg hIe6, if_neg hIe10, if_pos hc1]; rfl) | (unfold whatC; rw [if_neg hIe6, if_neg hIe10, if_neg hIe12, if_pos hc0]; rfl) | (unfold whatC; (repeat' split) <;> first | rfl | (exfalso; omega) | (exfalso; simp_all; done)), rfl⟩, by first | rfl | (rw [hk10]; exact (congrArg whatV (if_pos hc8)).symm) | (rw [hk11]; exact (congrArg whatV ((if_pos ⟨rfl, rfl, hts0⟩).trans (if_pos hc3))).symm) | (unfold whatC; rw [if_neg hIe6, if_neg hIe10, if_pos hc1]; rfl) | (unfold whatC; rw [if_neg hIe6, if_neg hIe10, if_neg hIe12, if_pos hc0]; rfl) | (unfold whatC; (repeat' split) <;> first | rfl | (exfalso; omega) | (exfalso; simp_all; done))⟩)
        ·(try simp only [sH] at h209)
         refine ygz ?_
         refine ygz ?_
         refine ygz ?_
         refine ygz ?_
         refine ygz ?_
         refine ypb ?_
         refine ynil' (kthn (hK19 _ _ ?_))
         clear hK19
         refine ccond0 rfl ?_
         refine cskip' (kbn (kthn (hK3 _ _ ?_)))
         clear hK3
         refine cseq ?_; intro K22 hK22
         refine creg ?_
         refine yas ?_
         refine ynil' (kthn (hK22 _ _ ?_))
         clear hK22
         refine cret ?_
         first
           | (exfalso; omega; done)
           | (refine kretv Tryz.results67 rfl (L1 := [caP A C] ++ R) zge ?_
              exact ⟨_, ⟨by first | rfl | (rw [hk10]; exact (congrArg whatV (if_pos hc8)).symm) | (rw [hk11]; exact (congrArg whatV ((if_pos ⟨rfl, rfl, hts0⟩).trans (if_pos hc3))).symm) | (unfold whatC; rw [if_neg hIe6, if_neg hIe10, if_pos hc1]; rfl) | (unfold whatC; rw [if_neg hIe6, if_neg hIe10, if_neg hIe12, if_pos hc0]; rfl) | (unfold whatC; (repeat' split) <;> first | rfl | (exfalso; omega) | (exfalso; simp_all; done)), rfl⟩, by first | rfl | (rw [hk10]; exact (congrArg whatV (if_pos hc8)).symm) | (rw [hk11]; exact (congrArg whatV ((if_pos ⟨rfl, rfl, hts0⟩).trans (if_pos hc3))).symm) | (unfold whatC; rw [if_neg hIe6, if_neg hIe10, if_pos hc1]; rfl) | (unfold whatC; rw [if_neg hIe6, if_neg hIe10, if_neg hIe12, if_pos hc0]; rfl) | (unfold whatC; (repeat' split) <;> first | rfl | (exfalso; omega) | (exfalso; simp_all; done))⟩)
       ·(try simp only [sH] at h201)
        refine ygz ?_
        refine ygz ?_
        refine ygz ?_
        refine ygz ?_
        refine ygz ?_
        refine ypb ?_
        refine ymv ?_
        refine ygz ?_
        refine ygz ?_
        refine ygz ?_
        refine ygz ?_
        refine ygz ?_
        refine ypb ?_
        refine ynil' (kthn (hK19 _ _ ?_))
        clear hK19
        refine ccond0 rfl ?_
        refine cskip' (kbn (kthn (hK3 _ _ ?_)))
        clear hK3
        refine cseq ?_; intro K23 hK23
        refine creg ?_
        refine yas ?_
        refine ynil' (kthn (hK23 _ _ ?_))
        clear hK23
        refine cret ?_
        first
          | (exfalso; omega; done)
          | (refine kretv Tryz.results67 rfl (L1 := [caP A C] ++ R) zge ?_
             exact ⟨_, ⟨by first | rfl | (rw [hk10]; exact (congrArg whatV (if_pos hc8)).symm) | (rw [hk11]; exact (congrArg whatV ((if_pos ⟨rfl, rfl, hts0⟩).trans (if_pos hc3))).symm) | (unfold whatC; rw [if_neg hIe6, if_neg hIe10, if_pos hc1]; rfl) | (unfold whatC; rw [if_neg hIe6, if_neg hIe10, if_neg hIe12, if_pos hc0]; rfl) | (unfold whatC; (repeat' split) <;> first | rfl | (exfalso; omega) | (exfalso; simp_all; done)), rfl⟩, by first | rfl | (rw [hk10]; exact (congrArg whatV (if_pos hc8)).symm) | (rw [hk11]; exact (congrArg whatV ((if_pos ⟨rfl, rfl, hts0⟩).trans (if_pos hc3))).symm) | (unfold whatC; rw [if_neg hIe6, if_neg hIe10, if_pos hc1]; rfl) | (unfold whatC; rw [if_neg hIe6, if_neg hIe10, if_neg hIe12, if_pos hc0]; rfl) | (unfold whatC; (repeat' split) <;> first | rfl | (exfalso; omega) | (exfalso; simp_all; done))⟩)
      ·(try simp only [sH] at h194)
       refine ygz ?_
       refine ygz ?_
       refine ygz ?_
       refine ygz ?_
       refine ypb ?_
       refine ymv ?_
       refine ygz ?_
       refine ygz ?_
       refine ygz ?_
       refine ygz ?_
       refine ygz ?_
       refine ypb ?_
       refine ymv ?_
       refine ygz ?_
       refine ygz ?_
       refine ygz ?_
       refine ygz ?_
       refine ygz ?_
       refine ypb ?_
       refine ynil' (kthn (hK19 _ _ ?_))
       clear hK19
       refine ccond0 rfl ?_
       refine cskip' (kbn (kthn (hK3 _ _ ?_)))
       clear hK3
       refine cseq ?_; intro K24 hK24
       refine creg ?_
       refine yas ?_
       refine ynil' (kthn (hK24 _ _ ?_))
       clear hK24
       refine cret ?_
       first
         | (exfalso; omega; done)
         | (refine kretv Tryz.results67 rfl (L1 := [caP A C] ++ R) zge ?_
            exact ⟨_, ⟨by first | rfl | (rw [hk10]; exact (congrArg whatV (if_pos hc8)).symm) | (rw [hk11]; exact (congrArg whatV ((if_pos ⟨rfl, rfl, hts0⟩).trans (if_pos hc3))).symm) | (unfold whatC; rw [if_neg hIe6, if_neg hIe10, if_pos hc1]; rfl) | (unfold whatC; rw [if_neg hIe6, if_neg hIe10, if_neg hIe12, if_pos hc0]; rfl) | (unfold whatC; (repeat' split) <;> first | rfl | (exfalso; omega) | (exfalso; simp_all; done)), rfl⟩, by first | rfl | (rw [hk10]; exact (congrArg whatV (if_pos hc8)).symm) | (rw [hk11]; exact (congrArg whatV ((if_pos ⟨rfl, rfl, hts0⟩).trans (if_pos hc3))).symm) | (unfold whatC; rw [if_neg hIe6, if_neg hIe10, if_pos hc1]; rfl) | (unfold whatC; rw [if_neg hIe6, if_neg hIe10, if_neg hIe12, if_pos hc0]; rfl) | (unfold whatC; (repeat' split) <;> first | rfl | (exfalso; omega) | (exfalso; simp_all; done))⟩)
     ·(try simp only [sH] at h187)
      refine ygz ?_
      refine ygz ?_
      refine ygz ?_
      refine ygz ?_
      refine ypb ?_
      refine ymv ?_
      refine ygz ?_
      refine ygz ?_
      refine ygz ?_
      refine ygz ?_
      refine ypb ?_
      refine ymv ?_
      refine ygz ?_
      refine ygz ?_
      refine ygz ?_
      refine ygz ?_
      refine ygz ?_
      refine ypb ?_
      refine ymv ?_
      refine ygz ?_
      refine ygz ?_
      refine ygz ?_
      refine ygz ?_
      refine ygz ?_
      refine ypb ?_
      refine ynil' (kthn (hK19 _ _ ?_))
      clear hK19
      refine ccond0 rfl ?_
      refine cskip' (kbn (kthn (hK3 _ _ ?_)))
      clear hK3
      refine cseq ?_; intro K25 hK25
      refine creg ?_
      refine yas ?_
      refine ynil' (kthn (hK25 _ _ ?_))
      clear hK25
      refine cret ?_
      first
        | (exfalso; omega; done)
        | (refine kretv Tryz.results67 rfl (L1 := [caP A C] ++ R) zge ?_
           exact ⟨_, ⟨by first | rfl | (rw [hk10]; exact (congrArg whatV (if_pos hc8)).symm) | (rw [hk11]; exact (congrArg whatV ((if_pos ⟨rfl, rfl, hts0⟩).trans (if_pos hc3))).symm) | (unfold whatC; rw [if_neg hIe6, if_neg hIe10, if_pos hc1]; rfl) | (unfold whatC; rw [if_neg hIe6, if_neg hIe10, if_neg hIe12, if_pos hc0]; rfl) | (unfold whatC; (repeat' split) <;> first | rfl | (exfalso; omega) | (exfalso; simp_all; done)), rfl⟩, by first | rfl | (rw [hk10]; exact (congrArg whatV (if_pos hc8)).symm) | (rw [hk11]; exact (congrArg whatV ((if_pos ⟨rfl, rfl, hts0⟩).trans (if_pos hc3))).symm) | (unfold whatC; rw [if_neg hIe6, if_neg hIe10, if_pos hc1]; rfl) | (unfold whatC; rw [if_neg hIe6, if_neg hIe10, if_neg hIe12, if_pos hc0]; rfl) | (unfold whatC; (repeat' split) <;> first | rfl | (exfalso; omega) | (exfalso; simp_all; done))⟩)
    ·(try simp only [sH] at h180)
     refine ygz ?_
     refine ygz ?_
     refine ygz ?_
     refine ygz ?_
     refine ypb ?_
     refine ymv ?_
     refine ygz ?_
     refine ygz ?_
     refine ygz ?_
     refine ygz ?_
     refine ypb ?_
     refine ymv ?_
     refine ygz ?_
     refine ygz ?_
     refine ygz ?_
     refine ygz ?_
     refine ypb ?_
     refine ymv ?_
     refine ygz ?_
     refine ygz ?_
     refine ygz ?_
     refine ygz ?_
     refine ygz ?_
     refine ypb ?_
     refine ymv ?_
     refine ygz ?_
     refine ygz ?_
     refine ygz ?_
     refine ygz ?_
     refine ygz ?_
     refine ypb ?_
     refine ynil' (kthn (hK19 _ _ ?_))
     clear hK19
     refine ccond0 rfl ?_
     refine cskip' (kbn (kthn (hK3 _ _ ?_)))
     clear hK3
     refine cseq ?_; intro K26 hK26
     refine creg ?_
     refine yas ?_
     refine ynil' (kthn (hK26 _ _ ?_))
     clear hK26
     refine cret ?_
     first
       | (exfalso; omega; done)
       | (refine kretv Tryz.results67 rfl (L1 := [caP A C] ++ R) zge ?_
          exact ⟨_, ⟨by first | rfl | (rw [hk10]; exact (congrArg whatV (if_pos hc8)).symm) | (rw [hk11]; exact (congrArg whatV ((if_pos ⟨rfl, rfl, hts0⟩).trans (if_pos hc3))).symm) | (unfold whatC; rw [if_neg hIe6, if_neg hIe10, if_pos hc1]; rfl) | (unfold whatC; rw [if_neg hIe6, if_neg hIe10, if_neg hIe12, if_pos hc0]; rfl) | (unfold whatC; (repeat' split) <;> first | rfl | (exfalso; omega) | (exfalso; simp_all; done)), rfl⟩, by first | rfl | (rw [hk10]; exact (congrArg whatV (if_pos hc8)).symm) | (rw [hk11]; exact (congrArg whatV ((if_pos ⟨rfl, rfl, hts0⟩).trans (if_pos hc3))).symm) | (unfold whatC; rw [if_neg hIe6, if_neg hIe10, if_pos hc1]; rfl) | (unfold whatC; rw [if_neg hIe6, if_neg hIe10, if_neg hIe12, if_pos hc0]; rfl) | (unfold whatC; (repeat' split) <;> first | rfl | (exfalso; omega) | (exfalso; simp_all; done))⟩)
   ·(try simp only [sH] at h145)
    exact csub zsub zge (hJe6 (by omega))
  ·(try simp only [sH] at h140)
   refine ygz ?_
   refine ygz ?_
   refine ypb ?_
   refine yas ?_
   refine ynil' (kthn (hK4 _ _ ?_))
   clear hK4
   refine ccond0 rfl ?_
   exact csub zsub zge (hJe6 (by omega))
 ·(try simp only [sH] at h134)
  refine ygz ?_
  refine ygz ?_
  refine ygz ?_
  refine ypb ?_
  refine ymv ?_
  refine ygz ?_
  refine ygz ?_
  refine ypb ?_
  refine yas ?_
  refine ynil' (kthn (hK4 _ _ ?_))
  clear hK4
  refine ccond0 rfl ?_
  exact csub zsub zge (hJe6 (by omega))
end W
end Go.Proofs
