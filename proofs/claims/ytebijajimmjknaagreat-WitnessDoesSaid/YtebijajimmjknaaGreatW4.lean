/- A part of the proof: contracts and plain lemmas, each without conditions beyond those that it names. -/
import Derived.Test.YtebijajimmjknaaGreatW3
set_option linter.unusedVariables false
set_option linter.unusedSimpArgs false
set_option linter.constructorNameAsVariable false
namespace Go.Proofs
open Go Go.Sl
namespace W
set_option linter.unusedVariables false
theorem wTake [Env] {R : List Seg} {s c : Nat} {q : Q3} {W : WitM} {D : Dev} {fr : Int} {m : MsgM} (hW : W.ok D) :
    Con Tryz.prog 11 [ptr s, i64 fr, .agg m.cells.toArray] [witP s c W, celP c q W.c, dev q D] R (Is (.tuple #[.agg (W.take D fr m).1.1.cells.toArray, .bool (W.take D fr m).1.2]) [witP s c (W.take D fr m).2.1, celP c q (W.take D fr m).2.1.c, dev q (W.take D fr m).2.2]) := by
  refine con_enter Tryz.func11 Tryz.ntmps11 rfl rfl ?_
  refine cseq ?_; intro K1 hK1
  refine creg ?_
  refine ya (ac_box (vs := m.cells) rfl rfl) rfl ?_
  rintro v L' ⟨b5, rfl, rfl⟩
  refine ya (ac_alloc Tryz.zeroValue37 rfl) rfl ?_
  rintro v L' ⟨b6, rfl, rfl⟩
  refine y (ev_assign rfl) rfl ?_
  refine ynil' (kthn (hK1 _ _ ?_))
  clear hK1
  refine cseq ?_; intro K2 hK2
  refine cseq ?_; intro K3 hK3
  refine creg ?_
  refine y (ev_move rfl) rfl ?_
  refine y (ev_lss rfl rfl) rfl ?_
  refine y (ev_move rfl) rfl ?_
  refine ysplit 13 rfl (fun h7 => ?_) (fun h7 => ?_)
  ·(try simp only [sH] at h7)
   refine yg0 rfl rfl rfl rfl ?_
   refine yg0 rfl rfl rfl rfl ?_
   refine y (ev_pick1 rfl rfl) rfl ?_
   refine y (ev_move rfl) rfl ?_
   refine yg0 rfl rfl rfl rfl ?_
   refine yg0 rfl rfl rfl rfl ?_
   refine yg0 rfl rfl rfl rfl ?_
   refine y (ev_pick1 rfl rfl) rfl ?_
   refine ynil' (kthn (hK3 _ _ ?_))
   clear hK3
   refine ccond1 rfl ?_
   refine cseq ?_; intro K4 hK4
   refine creg ?_
   have htk : W.take D fr m = ((.zero, false), W, D) := by unfold WitM.take; rw [if_pos]; first | omega | (right; right; simp_all)
   refine y (ev_build (zs := _) rfl Tryz.underlying37 Tryz.zeroValue37 rfl (.cons Tryz.sizeOf3 (.cons Tryz.sizeOf2 (.cons Tryz.sizeOf2 (.cons Tryz.sizeOf2 (.cons Tryz.sizeOf3 (.cons Tryz.sizeOf3 (.cons Tryz.sizeOf29 (.cons Tryz.sizeOf35 (.cons Tryz.sizeOf9 (.cons Tryz.sizeOf9 .nil)))))))))) trivial (by dsimp [fillL, splice, vcells] <;> rfl)) rfl ?_
   refine ya0 (ac_storeAll rfl rfl (by first | exact bytesV_one _ | (simp [Value.oneCell']; done) | (simp only [List.forall_mem_cons, List.not_mem_nil, false_implies, implies_true, svVal_one, and_true, true_and, and_self]; first | done | simp [Value.oneCell'])) Tryz.sizeOf37 zrp (by first | rfl | assumption | (simp [*]; done) | (simp [*]; omega)) (by first | rfl | assumption | (simp [*]; done) | (simp [*]; omega))) ?_
   rintro v L' ⟨rfl, rfl⟩
   refine y (ev_assign rfl) rfl ?_
   refine ynil' (kthn (hK4 _ _ ?_))
   clear hK4
   refine cret (kthr ?_)
   first
     | (exfalso; omega; done)
     | (refine kretct Tryz.results11 rfl rfl Tryz.isAgg37 Tryz.sizeOf37 zin (rfl) (L1 := [witP s c _, celP c q _, dev q _] ++ R) zge ?_
        rw [htk]; exact ⟨_, ⟨rfl, rfl⟩, rfl⟩)
  ·(try simp only [sH] at h7)
   refine yg1 rfl rfl ?_
   refine y (ev_move rfl) rfl ?_
   refine yg1 rfl rfl ?_
   refine y (ev_gtr rfl rfl) rfl ?_
   refine y (ev_pick0 rfl rfl) rfl ?_
   refine y (ev_move rfl) rfl ?_
   refine ysplit 17 rfl (fun h18 => ?_) (fun h18 => ?_)
   ·(try simp only [sH] at h18)
    refine yg0 rfl rfl rfl rfl ?_
    refine yg0 rfl rfl rfl rfl ?_
    refine yg0 rfl rfl rfl rfl ?_
    refine y (ev_pick1 rfl rfl) rfl ?_
    refine ynil' (kthn (hK3 _ _ ?_))
    clear hK3
    refine ccond1 rfl ?_
    refine cseq ?_; intro K5 hK5
    refine creg ?_
    have htk : W.take D fr m = ((.zero, false), W, D) := by unfold WitM.take; rw [if_pos]; first | omega | (right; right; simp_all)
    refine y (ev_build (zs := _) rfl Tryz.underlying37 Tryz.zeroValue37 rfl (.cons Tryz.sizeOf3 (.cons Tryz.sizeOf2 (.cons Tryz.sizeOf2 (.cons Tryz.sizeOf2 (.cons Tryz.sizeOf3 (.cons Tryz.sizeOf3 (.cons Tryz.sizeOf29 (.cons Tryz.sizeOf35 (.cons Tryz.sizeOf9 (.cons Tryz.sizeOf9 .nil)))))))))) trivial (by dsimp [fillL, splice, vcells] <;> rfl)) rfl ?_
    refine ya0 (ac_storeAll rfl rfl (by first | exact bytesV_one _ | (simp [Value.oneCell']; done) | (simp only [List.forall_mem_cons, List.not_mem_nil, false_implies, implies_true, svVal_one, and_true, true_and, and_self]; first | done | simp [Value.oneCell'])) Tryz.sizeOf37 zrp (by first | rfl | assumption | (simp [*]; done) | (simp [*]; omega)) (by first | rfl | assumption | (simp [*]; done) | (simp [*]; omega))) ?_
    rintro v L' ⟨rfl, rfl⟩
    refine y (ev_assign rfl) rfl ?_
    refine ynil' (kthn (hK5 _ _ ?_))
    clear hK5
    refine cret (kthr ?_)
    first
      | (exfalso; omega; done)
      | (refine kretct Tryz.results11 rfl rfl Tryz.isAgg37 Tryz.sizeOf37 zin (rfl) (L1 := [witP s c _, celP c q _, dev q _] ++ R) zge ?_
         rw [htk]; exact ⟨_, ⟨rfl, rfl⟩, rfl⟩)
   ·(try simp only [sH] at h18)
    refine yg1 rfl rfl ?_
    refine y (ev_loadAll rfl Tryz.isAgg37 Tryz.sizeOf37 zin (by first | rfl | assumption | (simp [*]; done) | (simp [*]; omega))) rfl ?_
    refine yg1 rfl rfl ?_
    refine ycall (mMay (m := m)) rfl Tryz.call46 ztk rfl ?_
    rintro v L' ⟨rfl, rfl⟩
    refine yg1 rfl rfl ?_
    refine y (ev_not rfl) rfl ?_
    refine y (ev_pick0 rfl rfl) rfl ?_
    refine ynil' (kthn (hK3 _ _ ?_))
    clear hK3
    refine ccond rfl (fun h27 => ?_) (fun h27 => ?_)
    ·(try simp only [sH] at h27)
     refine cseq ?_; intro K6 hK6
     refine creg ?_
     have htk : W.take D fr m = ((.zero, false), W, D) := by unfold WitM.take; rw [if_pos]; first | omega | (right; right; simp_all)
     refine y (ev_build (zs := _) rfl Tryz.underlying37 Tryz.zeroValue37 rfl (.cons Tryz.sizeOf3 (.cons Tryz.sizeOf2 (.cons Tryz.sizeOf2 (.cons Tryz.sizeOf2 (.cons Tryz.sizeOf3 (.cons Tryz.sizeOf3 (.cons Tryz.sizeOf29 (.cons Tryz.sizeOf35 (.cons Tryz.sizeOf9 (.cons Tryz.sizeOf9 .nil)))))))))) trivial (by dsimp [fillL, splice, vcells] <;> rfl)) rfl ?_
     refine ya0 (ac_storeAll rfl rfl (by first | exact bytesV_one _ | (simp [Value.oneCell']; done) | (simp only [List.forall_mem_cons, List.not_mem_nil, false_implies, implies_true, svVal_one, and_true, true_and, and_self]; first | done | simp [Value.oneCell'])) Tryz.sizeOf37 zrp (by first | rfl | assumption | (simp [*]; done) | (simp [*]; omega)) (by first | rfl | assumption | (simp [*]; done) | (simp [*]; omega))) ?_
     rintro v L' ⟨rfl, rfl⟩
     refine y (ev_assign rfl) rfl ?_
     refine ynil' (kthn (hK6 _ _ ?_))
     clear hK6
     refine cret (kthr ?_)
     first
       | (exfalso; omega; done)
       | (refine kretct Tryz.results11 rfl rfl Tryz.isAgg37 Tryz.sizeOf37 zin (rfl) (L1 := [witP s c _, celP c q _, dev q _] ++ R) zge ?_
          rw [htk]; exact ⟨_, ⟨rfl, rfl⟩, rfl⟩)
    ·(try simp only [sH] at h27)
     refine cskip' (kthn (hK2 _ _ ?_))
     clear hK2
     refine cseq ?_; intro K7 hK7
     refine cdraw 5 [(0, true), (1, true), (2, true), (3, true), (4, true)] (_) Tryz.mixed (by kernel_rfl) .refl ?_
     have hmay : m.may = true := by simp_all
     have hmok := MsgM.ok_of hmay
     have hfr : fr = 0 ∨ fr = 1 := by omega
     have hg : ¬ (fr < 0 ∨ 1 < fr ∨ m.may = false) := by rw [hmay]; simp; omega
     refine hr rfl (ev_move rfl) rfl ?_
     refine hr rfl (ev_mkFuncF rfl) rfl ?_
     refine hr rfl (ev_fieldAddr 0 rfl Tryz.underlying37 rfl Tryz.sizeOf3) rfl ?_
     refine hr rfl (ev_load rfl Tryz.isAgg3 zin rfl) rfl ?_
     refine hr rfl (ev_assign rfl) rfl ?_
     refine hnil ?_
     refine y (ev_assign rfl) rfl ?_
     refine hnoP' (kthn (hK7 _ _ ?_))
     clear hK7
     refine cseq ?_; intro K8 hK8
     refine cseq ?_; intro K9 hK9
     refine creg ?_
     refine y (ev_fieldAddr 0 rfl Tryz.underlying37 rfl Tryz.sizeOf3) rfl ?_
     refine y (ev_load rfl Tryz.isAgg3 zin rfl) rfl ?_
     refine ynil' (kthn (hK9 _ _ ?_))
     clear hK9
     refine cblock ?_
     refine cseq ?_; intro K10 hK10
     refine creg ?_
     refine y (ev_eql rfl rfl) rfl ?_
     refine y (ev_assign rfl) rfl ?_
     refine ynil' (kthn (hK10 _ _ ?_))
     clear hK10
     refine ccond rfl (fun h41 => ?_) (fun h41 => ?_)
     ·(try simp only [sH] at h41)
      have hhd : W.handle D fr m = some (W.ask D fr m) := by unfold WitM.handle; rw [if_pos (by omega)]
      have has : (if m.kind = 1 then 2 else m.kind) = 2 := by rw [if_pos (by omega)]
      refine creg ?_
      refine y (ev_move rfl) rfl ?_
      refine y (ev_mkFuncF rfl) rfl ?_
      refine y (ev_assign rfl) rfl ?_
      refine y (ev_assign rfl) rfl ?_
      refine ynil' (kbn (kthn (hK8 _ _ ?_)))
      clear hK8
      refine cseq ?_; intro K11 hK11
      refine creg ?_
      refine y (ev_move rfl) rfl ?_
      refine y (ev_move rfl) rfl ?_
      refine y (ev_loadAll rfl Tryz.isAgg37 Tryz.sizeOf37 zin (by first | rfl | assumption | (simp [*]; done) | (simp [*]; omega))) rfl ?_
      first
        | (refine ycallFf rfl (wAsk (m := m) hW hfr) rfl Tryz.call48 ztk rfl ?_
           rintro v L' ⟨rfl, rfl⟩
           generalize W.ask D fr m = r at *)
        | (refine ycallFf rfl (wChanged (m := m) hW hfr hmok) rfl Tryz.call49 ztk rfl ?_
           rintro v L' ⟨rfl, rfl⟩
           generalize W.changed D fr m = r at *)
        | (refine ycallFf rfl (wLost (m := m) hW hfr hmok) rfl Tryz.call47 ztk rfl ?_
           rintro v L' ⟨rfl, rfl⟩
           generalize W.lost D fr m = r at *)
      refine y (ev_assign rfl) rfl ?_
      refine ynil' (kthn (hK11 _ _ ?_))
      clear hK11
      refine cseq ?_; intro K12 hK12
      refine cseq ?_; intro K13 hK13
      refine creg ?_
      refine y (ev_move rfl) rfl ?_
      refine y (ev_eql rfl rfl) rfl ?_
      refine ynil' (kthn (hK13 _ _ ?_))
      clear hK13
      refine ccond rfl (fun h53 => ?_) (fun h53 => ?_)
      ·(try simp only [sH] at h53)
       have htk : W.take D fr m = ((.zero, false), r.2.1, r.2.2) := by unfold WitM.take; rw [if_neg hg, hhd]; dsimp only; rw [if_pos h53]
       refine cseq ?_; intro K14 hK14
       refine creg ?_
       refine y (ev_build (zs := _) rfl Tryz.underlying37 Tryz.zeroValue37 rfl (.cons Tryz.sizeOf3 (.cons Tryz.sizeOf2 (.cons Tryz.sizeOf2 (.cons Tryz.sizeOf2 (.cons Tryz.sizeOf3 (.cons Tryz.sizeOf3 (.cons Tryz.sizeOf29 (.cons Tryz.sizeOf35 (.cons Tryz.sizeOf9 (.cons Tryz.sizeOf9 .nil)))))))))) trivial (by dsimp [fillL, splice, vcells] <;> rfl)) rfl ?_
       refine ya0 (ac_storeAll rfl rfl (by first | exact bytesV_one _ | (simp [Value.oneCell']; done) | (simp only [List.forall_mem_cons, List.not_mem_nil, false_implies, implies_true, svVal_one, and_true, true_and, and_self]; first | done | simp [Value.oneCell'])) Tryz.sizeOf37 zrp (by first | rfl | assumption | (simp [*]; done) | (simp [*]; omega)) (by first | rfl | assumption | (simp [*]; done) | (simp [*]; omega))) ?_
       rintro v L' ⟨rfl, rfl⟩
       refine y (ev_assign rfl) rfl ?_
       refine ynil' (kthn (hK14 _ _ ?_))
       clear hK14
       refine cret (kthr ?_)
       first
         | (exfalso; omega; done)
         | (refine kretct Tryz.results11 rfl rfl Tryz.isAgg37 Tryz.sizeOf37 zin (rfl) (L1 := [witP s c _, celP c q _, dev q _] ++ R) zge ?_
            rw [htk]; exact ⟨_, ⟨rfl, rfl⟩, rfl⟩)
      ·(try simp only [sH] at h53)
       have htk : W.take D fr m = ((r.2.1.answer m r.1, true), r.2.1, r.2.2) := by unfold WitM.take; rw [if_neg hg, hhd]; dsimp only; rw [if_neg h53]
       have han : (r.2.1.answer m r.1).cells = [i64 (if m.kind = 1 then 2 else m.kind), i64 r.2.1.f.epoch, i64 r.2.1.f.mask, i64 m.n, i64 (-1), i64 r.2.1.f.holder, i64 r.1, i64 0, i64 0, i64 0, i64 0, str [], str []] := rfl
       rw [has] at han
       refine cskip' (kthn (hK12 _ _ ?_))
       clear hK12
       refine cseq ?_; intro K15 hK15
       refine cdraw 20 [(0, true), (1, true), (2, true), (3, true), (4, true), (5, true), (6, true), (7, true), (8, true), (9, true), (10, true), (11, true), (12, true), (13, true), (14, true), (15, true), (16, true), (17, true), (18, true), (19, true)] (_) Tryz.mixed (by kernel_rfl) .refl ?_
       unfold witP
       refine hr rfl (ev_move rfl) rfl ?_
       refine hr rfl (ev_move rfl) rfl ?_
       refine hr rfl (ev_nil rfl) rfl ?_
       refine hr rfl (ev_fieldAddr 1 rfl Tryz.underlying97 rfl Tryz.sizeOf93) rfl ?_
       refine hr rfl (ev_fieldAddr 0 rfl Tryz.underlying93 rfl Tryz.sizeOf2) rfl ?_
       refine hr rfl (ev_load rfl Tryz.isAgg2 zin rfl) rfl ?_
       refine hr rfl (ev_move rfl) rfl ?_
       refine hr rfl (ev_nil rfl) rfl ?_
       refine hr rfl (ev_fieldAddr 1 rfl Tryz.underlying97 rfl Tryz.sizeOf93) rfl ?_
       refine hr rfl (ev_fieldAddr 2 rfl Tryz.underlying93 rfl Tryz.sizeOf3) rfl ?_
       refine hr rfl (ev_load rfl Tryz.isAgg3 zin rfl) rfl ?_
       refine hr rfl (ev_fieldAddr 3 rfl Tryz.underlying37 rfl Tryz.sizeOf2) rfl ?_
       refine hr rfl (ev_load rfl Tryz.isAgg2 zin rfl) rfl ?_
       refine hr rfl (ev_move rfl) rfl ?_
       refine hr rfl (ev_nil rfl) rfl ?_
       refine hr rfl (ev_fieldAddr 1 rfl Tryz.underlying97 rfl Tryz.sizeOf93) rfl ?_
       refine hr rfl (ev_fieldAddr 1 rfl Tryz.underlying93 rfl Tryz.sizeOf3) rfl ?_
       refine hr rfl (ev_load rfl Tryz.isAgg3 zin rfl) rfl ?_
       refine hr rfl (ev_move rfl) rfl ?_
       refine hr rfl (ev_build (vs := [i64 _, i64 r.2.1.f.epoch, i64 r.2.1.f.mask, i64 m.n, i64 (-1), i64 r.2.1.f.holder, i64 r.1, i64 0, i64 0, i64 0, i64 0, str [], str []]) (zs := _) rfl Tryz.underlying37 Tryz.zeroValue37 rfl (.cons Tryz.sizeOf3 (.cons Tryz.sizeOf2 (.cons Tryz.sizeOf2 (.cons Tryz.sizeOf2 (.cons Tryz.sizeOf3 (.cons Tryz.sizeOf3 (.cons Tryz.sizeOf29 (.cons Tryz.sizeOf35 (.cons Tryz.sizeOf9 (.cons Tryz.sizeOf9 .nil)))))))))) ⟨⟨_, _, rfl, (by first | rfl | simp), (by first | decide | simp)⟩, ⟨⟨_, _, rfl, (by first | rfl | simp), (by first | decide | simp)⟩, ⟨⟨_, _, rfl, (by first | rfl | simp), (by first | decide | simp)⟩, ⟨⟨_, _, rfl, (by first | rfl | simp), (by first | decide | simp)⟩, ⟨⟨_, _, rfl, (by first | rfl | simp), (by first | decide | simp)⟩, ⟨⟨_, _, rfl, (by first | rfl | simp), (by first | decide | simp)⟩, ⟨⟨_, _, rfl, (by first | rfl | simp), (by first | decide | simp)⟩, trivial⟩⟩⟩⟩⟩⟩⟩ (by dsimp [fillL, splice, vcells] <;> rfl)) rfl ?_
       refine hnil ?_
       refine ya0 (ac_storeAll rfl rfl (by first | exact bytesV_one _ | (simp [Value.oneCell']; done) | (simp only [List.forall_mem_cons, List.not_mem_nil, false_implies, implies_true, svVal_one, and_true, true_and, and_self]; first | done | simp [Value.oneCell'])) Tryz.sizeOf37 zrp (by first | rfl | assumption | (simp [*]; done) | (simp [*]; omega)) (by first | rfl | assumption | (simp [*]; done) | (simp [*]; omega))) ?_
       rintro v L' ⟨rfl, rfl⟩
       refine y (ev_assign rfl) rfl ?_
       refine hnoP' (kthn (hK15 _ _ ?_))
       clear hK15
       refine cret ?_
       first
         | (exfalso; omega; done)
         | (refine kretct Tryz.results11 rfl rfl Tryz.isAgg37 Tryz.sizeOf37 zin (rfl) (L1 := [witP s c _, celP c q _, dev q _] ++ R) zge ?_
            rw [htk]; dsimp only; rw [han]; exact ⟨_, ⟨rfl, rfl⟩, rfl⟩)
     ·(try simp only [sH] at h41)
      have has : (if m.kind = 1 then 2 else m.kind) = m.kind := by rw [if_neg (by omega)]
      refine cseq ?_; intro K16 hK16
      refine creg ?_
      refine y (ev_eql rfl rfl) rfl ?_
      refine y (ev_assign rfl) rfl ?_
      refine ynil' (kthn (hK16 _ _ ?_))
      clear hK16
      refine ccond rfl (fun h81 => ?_) (fun h81 => ?_)
      ·(try simp only [sH] at h81)
       have hhd : W.handle D fr m = some (W.changed D fr m) := by unfold WitM.handle; rw [if_neg (by omega), if_pos (by omega)]
       refine creg ?_
       refine y (ev_move rfl) rfl ?_
       refine y (ev_mkFuncF rfl) rfl ?_
       refine y (ev_assign rfl) rfl ?_
       refine ynil' (kbn (kthn (hK8 _ _ ?_)))
       clear hK8
       refine cseq ?_; intro K17 hK17
       refine creg ?_
       refine y (ev_move rfl) rfl ?_
       refine y (ev_move rfl) rfl ?_
       refine y (ev_loadAll rfl Tryz.isAgg37 Tryz.sizeOf37 zin (by first | rfl | assumption | (simp [*]; done) | (simp [*]; omega))) rfl ?_
       first
         | (refine ycallFf rfl (wAsk (m := m) hW hfr) rfl Tryz.call48 ztk rfl ?_
            rintro v L' ⟨rfl, rfl⟩
            generalize W.ask D fr m = r at *)
         | (refine ycallFf rfl (wChanged (m := m) hW hfr hmok) rfl Tryz.call49 ztk rfl ?_
            rintro v L' ⟨rfl, rfl⟩
            generalize W.changed D fr m = r at *)
         | (refine ycallFf rfl (wLost (m := m) hW hfr hmok) rfl Tryz.call47 ztk rfl ?_
            rintro v L' ⟨rfl, rfl⟩
            generalize W.lost D fr m = r at *)
       refine y (ev_assign rfl) rfl ?_
       refine ynil' (kthn (hK17 _ _ ?_))
       clear hK17
       refine cseq ?_; intro K18 hK18
       refine cseq ?_; intro K19 hK19
       refine creg ?_
       refine y (ev_move rfl) rfl ?_
       refine y (ev_eql rfl rfl) rfl ?_
       refine ynil' (kthn (hK19 _ _ ?_))
       clear hK19
       refine ccond rfl (fun h92 => ?_) (fun h92 => ?_)
       ·(try simp only [sH] at h92)
        have htk : W.take D fr m = ((.zero, false), r.2.1, r.2.2) := by unfold WitM.take; rw [if_neg hg, hhd]; dsimp only; rw [if_pos h92]
        refine cseq ?_; intro K20 hK20
        refine creg ?_
        refine y (ev_build (zs := _) rfl Tryz.underlying37 Tryz.zeroValue37 rfl (.cons Tryz.sizeOf3 (.cons Tryz.sizeOf2 (.cons Tryz.sizeOf2 (.cons Tryz.sizeOf2 (.cons Tryz.sizeOf3 (.cons Tryz.sizeOf3 (.cons Tryz.sizeOf29 (.cons Tryz.sizeOf35 (.cons Tryz.sizeOf9 (.cons Tryz.sizeOf9 .nil)))))))))) trivial (by dsimp [fillL, splice, vcells] <;> rfl)) rfl ?_
        refine ya0 (ac_storeAll rfl rfl (by first | exact bytesV_one _ | (simp [Value.oneCell']; done) | (simp only [List.forall_mem_cons, List.not_mem_nil, false_implies, implies_true, svVal_one, and_true, true_and, and_self]; first | done | simp [Value.oneCell'])) Tryz.sizeOf37 zrp (by first | rfl | assumption | (simp [*]; done) | (simp [*]; omega)) (by first | rfl | assumption | (simp [*]; done) | (simp [*]; omega))) ?_
        rintro v L' ⟨rfl, rfl⟩
        refine y (ev_assign rfl) rfl ?_
        refine ynil' (kthn (hK20 _ _ ?_))
        clear hK20
        refine cret (kthr ?_)
        first
          | (exfalso; omega; done)
          | (refine kretct Tryz.results11 rfl rfl Tryz.isAgg37 Tryz.sizeOf37 zin (rfl) (L1 := [witP s c _, celP c q _, dev q _] ++ R) zge ?_
             rw [htk]; exact ⟨_, ⟨rfl, rfl⟩, rfl⟩)
       ·(try simp only [sH] at h92)
        have htk : W.take D fr m = ((r.2.1.answer m r.1, true), r.2.1, r.2.2) := by unfold WitM.take; rw [if_neg hg, hhd]; dsimp only; rw [if_neg h92]
        have han : (r.2.1.answer m r.1).cells = [i64 (if m.kind = 1 then 2 else m.kind), i64 r.2.1.f.epoch, i64 r.2.1.f.mask, i64 m.n, i64 (-1), i64 r.2.1.f.holder, i64 r.1, i64 0, i64 0, i64 0, i64 0, str [], str []] := rfl
        rw [has] at han
        refine cskip' (kthn (hK18 _ _ ?_))
        clear hK18
        refine cseq ?_; intro K21 hK21
        refine cdraw 20 [(0, true), (1, true), (2, true), (3, true), (4, true), (5, true), (6, true), (7, true), (8, true), (9, true), (10, true), (11, true), (12, true), (13, true), (14, true), (15, true), (16, true), (17, true), (18, true), (19, true)] (_) Tryz.mixed (by kernel_rfl) .refl ?_
        unfold witP
        refine hr rfl (ev_move rfl) rfl ?_
        refine hr rfl (ev_move rfl) rfl ?_
        refine hr rfl (ev_nil rfl) rfl ?_
        refine hr rfl (ev_fieldAddr 1 rfl Tryz.underlying97 rfl Tryz.sizeOf93) rfl ?_
        refine hr rfl (ev_fieldAddr 0 rfl Tryz.underlying93 rfl Tryz.sizeOf2) rfl ?_
        refine hr rfl (ev_load rfl Tryz.isAgg2 zin rfl) rfl ?_
        refine hr rfl (ev_move rfl) rfl ?_
        refine hr rfl (ev_nil rfl) rfl ?_
        refine hr rfl (ev_fieldAddr 1 rfl Tryz.underlying97 rfl Tryz.sizeOf93) rfl ?_
        refine hr rfl (ev_fieldAddr 2 rfl Tryz.underlying93 rfl Tryz.sizeOf3) rfl ?_
        refine hr rfl (ev_load rfl Tryz.isAgg3 zin rfl) rfl ?_
        refine hr rfl (ev_fieldAddr 3 rfl Tryz.underlying37 rfl Tryz.sizeOf2) rfl ?_
        refine hr rfl (ev_load rfl Tryz.isAgg2 zin rfl) rfl ?_
        refine hr rfl (ev_move rfl) rfl ?_
        refine hr rfl (ev_nil rfl) rfl ?_
        refine hr rfl (ev_fieldAddr 1 rfl Tryz.underlying97 rfl Tryz.sizeOf93) rfl ?_
        refine hr rfl (ev_fieldAddr 1 rfl Tryz.underlying93 rfl Tryz.sizeOf3) rfl ?_
        refine hr rfl (ev_load rfl Tryz.isAgg3 zin rfl) rfl ?_
        refine hr rfl (ev_move rfl) rfl ?_
        refine hr rfl (ev_build (vs := [i64 _, i64 r.2.1.f.epoch, i64 r.2.1.f.mask, i64 m.n, i64 (-1), i64 r.2.1.f.holder, i64 r.1, i64 0, i64 0, i64 0, i64 0, str [], str []]) (zs := _) rfl Tryz.underlying37 Tryz.zeroValue37 rfl (.cons Tryz.sizeOf3 (.cons Tryz.sizeOf2 (.cons Tryz.sizeOf2 (.cons Tryz.sizeOf2 (.cons Tryz.sizeOf3 (.cons Tryz.sizeOf3 (.cons Tryz.sizeOf29 (.cons Tryz.sizeOf35 (.cons Tryz.sizeOf9 (.cons Tryz.sizeOf9 .nil)))))))))) ⟨⟨_, _, rfl, (by first | rfl | simp), (by first | decide | simp)⟩, ⟨⟨_, _, rfl, (by first | rfl | simp), (by first | decide | simp)⟩, ⟨⟨_, _, rfl, (by first | rfl | simp), (by first | decide | simp)⟩, ⟨⟨_, _, rfl, (by first | rfl | simp), (by first | decide | simp)⟩, ⟨⟨_, _, rfl, (by first | rfl | simp), (by first | decide | simp)⟩, ⟨⟨_, _, rfl, (by first | rfl | simp), (by first | decide | simp)⟩, ⟨⟨_, _, rfl, (by first | rfl | simp), (by first | decide | simp)⟩, trivial⟩⟩⟩⟩⟩⟩⟩ (by dsimp [fillL, splice, vcells] <;> rfl)) rfl ?_
        refine hnil ?_
        refine ya0 (ac_storeAll rfl rfl (by first | exact bytesV_one _ | (simp [Value.oneCell']; done) | (simp only [List.forall_mem_cons, List.not_mem_nil, false_implies, implies_true, svVal_one, and_true, true_and, and_self]; first | done | simp [Value.oneCell'])) Tryz.sizeOf37 zrp (by first | rfl | assumption | (simp [*]; done) | (simp [*]; omega)) (by first | rfl | assumption | (simp [*]; done) | (simp [*]; omega))) ?_
        rintro v L' ⟨rfl, rfl⟩
        refine y (ev_assign rfl) rfl ?_
        refine hnoP' (kthn (hK21 _ _ ?_))
        clear hK21
        refine cret ?_
        first
          | (exfalso; omega; done)
          | (refine kretct Tryz.results11 rfl rfl Tryz.isAgg37 Tryz.sizeOf37 zin (rfl) (L1 := [witP s c _, celP c q _, dev q _] ++ R) zge ?_
             rw [htk]; dsimp only; rw [han]; exact ⟨_, ⟨rfl, rfl⟩, rfl⟩)
      ·(try simp only [sH] at h81)
       refine cseq ?_; intro K22 hK22
       refine creg ?_
       refine y (ev_eql rfl rfl) rfl ?_
       refine y (ev_assign rfl) rfl ?_
       refine ynil' (kthn (hK22 _ _ ?_))
       clear hK22
       refine ccond rfl (fun h120 => ?_) (fun h120 => ?_)
       ·(try simp only [sH] at h120)
        have hhd : W.handle D fr m = some (W.lost D fr m) := by unfold WitM.handle; rw [if_neg (by omega), if_neg (by omega), if_pos (by omega)]
        refine cskip' (kbn (kthn (hK8 _ _ ?_)))
        clear hK8
        refine cseq ?_; intro K23 hK23
        refine creg ?_
        refine y (ev_move rfl) rfl ?_
        refine y (ev_move rfl) rfl ?_
        refine y (ev_loadAll rfl Tryz.isAgg37 Tryz.sizeOf37 zin (by first | rfl | assumption | (simp [*]; done) | (simp [*]; omega))) rfl ?_
        first
          | (refine ycallFf rfl (wAsk (m := m) hW hfr) rfl Tryz.call48 ztk rfl ?_
             rintro v L' ⟨rfl, rfl⟩
             generalize W.ask D fr m = r at *)
          | (refine ycallFf rfl (wChanged (m := m) hW hfr hmok) rfl Tryz.call49 ztk rfl ?_
             rintro v L' ⟨rfl, rfl⟩
             generalize W.changed D fr m = r at *)
          | (refine ycallFf rfl (wLost (m := m) hW hfr hmok) rfl Tryz.call47 ztk rfl ?_
             rintro v L' ⟨rfl, rfl⟩
             generalize W.lost D fr m = r at *)
        refine y (ev_assign rfl) rfl ?_
        refine ynil' (kthn (hK23 _ _ ?_))
        clear hK23
        refine cseq ?_; intro K24 hK24
        refine cseq ?_; intro K25 hK25
        refine creg ?_
        refine y (ev_move rfl) rfl ?_
        refine y (ev_eql rfl rfl) rfl ?_
        refine ynil' (kthn (hK25 _ _ ?_))
        clear hK25
        refine ccond rfl (fun h128 => ?_) (fun h128 => ?_)
        ·(try simp only [sH] at h128)
         have htk : W.take D fr m = ((.zero, false), r.2.1, r.2.2) := by unfold WitM.take; rw [if_neg hg, hhd]; dsimp only; rw [if_pos h128]
         refine cseq ?_; intro K26 hK26
         refine creg ?_
         refine y (ev_build (zs := _) rfl Tryz.underlying37 Tryz.zeroValue37 rfl (.cons Tryz.sizeOf3 (.cons Tryz.sizeOf2 (.cons Tryz.sizeOf2 (.cons Tryz.sizeOf2 (.cons Tryz.sizeOf3 (.cons Tryz.sizeOf3 (.cons Tryz.sizeOf29 (.cons Tryz.sizeOf35 (.cons Tryz.sizeOf9 (.cons Tryz.sizeOf9 .nil)))))))))) trivial (by dsimp [fillL, splice, vcells] <;> rfl)) rfl ?_
         refine ya0 (ac_storeAll rfl rfl (by first | exact bytesV_one _ | (simp [Value.oneCell']; done) | (simp only [List.forall_mem_cons, List.not_mem_nil, false_implies, implies_true, svVal_one, and_true, true_and, and_self]; first | done | simp [Value.oneCell'])) Tryz.sizeOf37 zrp (by first | rfl | assumption | (simp [*]; done) | (simp [*]; omega)) (by first | rfl | assumption | (simp [*]; done) | (simp [*]; omega))) ?_
         rintro v L' ⟨rfl, rfl⟩
         refine y (ev_assign rfl) rfl ?_
         refine ynil' (kthn (hK26 _ _ ?_))
         clear hK26
         refine cret (kthr ?_)
         first
           | (exfalso; omega; done)
           | (refine kretct Tryz.results11 rfl rfl Tryz.isAgg37 Tryz.sizeOf37 zin (rfl) (L1 := [witP s c _, celP c q _, dev q _] ++ R) zge ?_
              rw [htk]; exact ⟨_, ⟨rfl, rfl⟩, rfl⟩)
        ·(try simp only [sH] at h128)
         have htk : W.take D fr m = ((r.2.1.answer m r.1, true), r.2.1, r.2.2) := by unfold WitM.take; rw [if_neg hg, hhd]; dsimp only; rw [if_neg h128]
         have han : (r.2.1.answer m r.1).cells = [i64 (if m.kind = 1 then 2 else m.kind), i64 r.2.1.f.epoch, i64 r.2.1.f.mask, i64 m.n, i64 (-1), i64 r.2.1.f.holder, i64 r.1, i64 0, i64 0, i64 0, i64 0, str [], str []] := rfl
         rw [has] at han
         refine cskip' (kthn (hK24 _ _ ?_))
         clear hK24
         refine cseq ?_; intro K27 hK27
         refine cdraw 20 [(0, true), (1, true), (2, true), (3, true), (4, true), (5, true), (6, true), (7, true), (8, true), (9, true), (10, true), (11, true), (12, true), (13, true), (14, true), (15, true), (16, true), (17, true), (18, true), (19, true)] (_) Tryz.mixed (by kernel_rfl) .refl ?_
         unfold witP
         refine hr rfl (ev_move rfl) rfl ?_
         refine hr rfl (ev_move rfl) rfl ?_
         refine hr rfl (ev_nil rfl) rfl ?_
         refine hr rfl (ev_fieldAddr 1 rfl Tryz.underlying97 rfl Tryz.sizeOf93) rfl ?_
         refine hr rfl (ev_fieldAddr 0 rfl Tryz.underlying93 rfl Tryz.sizeOf2) rfl ?_
         refine hr rfl (ev_load rfl Tryz.isAgg2 zin rfl) rfl ?_
         refine hr rfl (ev_move rfl) rfl ?_
         refine hr rfl (ev_nil rfl) rfl ?_
         refine hr rfl (ev_fieldAddr 1 rfl Tryz.underlying97 rfl Tryz.sizeOf93) rfl ?_
         refine hr rfl (ev_fieldAddr 2 rfl Tryz.underlying93 rfl Tryz.sizeOf3) rfl ?_
         refine hr rfl (ev_load rfl Tryz.isAgg3 zin rfl) rfl ?_
         refine hr rfl (ev_fieldAddr 3 rfl Tryz.underlying37 rfl Tryz.sizeOf2) rfl ?_
         refine hr rfl (ev_load rfl Tryz.isAgg2 zin rfl) rfl ?_
         refine hr rfl (ev_move rfl) rfl ?_
         refine hr rfl (ev_nil rfl) rfl ?_
         refine hr rfl (ev_fieldAddr 1 rfl Tryz.underlying97 rfl Tryz.sizeOf93) rfl ?_
         refine hr rfl (ev_fieldAddr 1 rfl Tryz.underlying93 rfl Tryz.sizeOf3) rfl ?_
         refine hr rfl (ev_load rfl Tryz.isAgg3 zin rfl) rfl ?_
         refine hr rfl (ev_move rfl) rfl ?_
         refine hr rfl (ev_build (vs := [i64 _, i64 r.2.1.f.epoch, i64 r.2.1.f.mask, i64 m.n, i64 (-1), i64 r.2.1.f.holder, i64 r.1, i64 0, i64 0, i64 0, i64 0, str [], str []]) (zs := _) rfl Tryz.underlying37 Tryz.zeroValue37 rfl (.cons Tryz.sizeOf3 (.cons Tryz.sizeOf2 (.cons Tryz.sizeOf2 (.cons Tryz.sizeOf2 (.cons Tryz.sizeOf3 (.cons Tryz.sizeOf3 (.cons Tryz.sizeOf29 (.cons Tryz.sizeOf35 (.cons Tryz.sizeOf9 (.cons Tryz.sizeOf9 .nil)))))))))) ⟨⟨_, _, rfl, (by first | rfl | simp), (by first | decide | simp)⟩, ⟨⟨_, _, rfl, (by first | rfl | simp), (by first | decide | simp)⟩, ⟨⟨_, _, rfl, (by first | rfl | simp), (by first | decide | simp)⟩, ⟨⟨_, _, rfl, (by first | rfl | simp), (by first | decide | simp)⟩, ⟨⟨_, _, rfl, (by first | rfl | simp), (by first | decide | simp)⟩, ⟨⟨_, _, rfl, (by first | rfl | simp), (by first | decide | simp)⟩, ⟨⟨_, _, rfl, (by first | rfl | simp), (by first | decide | simp)⟩, trivial⟩⟩⟩⟩⟩⟩⟩ (by dsimp [fillL, splice, vcells] <;> rfl)) rfl ?_
         refine hnil ?_
         refine ya0 (ac_storeAll rfl rfl (by first | exact bytesV_one _ | (simp [Value.oneCell']; done) | (simp only [List.forall_mem_cons, List.not_mem_nil, false_implies, implies_true, svVal_one, and_true, true_and, and_self]; first | done | simp [Value.oneCell'])) Tryz.sizeOf37 zrp (by first | rfl | assumption | (simp [*]; done) | (simp [*]; omega)) (by first | rfl | assumption | (simp [*]; done) | (simp [*]; omega))) ?_
         rintro v L' ⟨rfl, rfl⟩
         refine y (ev_assign rfl) rfl ?_
         refine hnoP' (kthn (hK27 _ _ ?_))
         clear hK27
         refine cret ?_
         first
           | (exfalso; omega; done)
           | (refine kretct Tryz.results11 rfl rfl Tryz.isAgg37 Tryz.sizeOf37 zin (rfl) (L1 := [witP s c _, celP c q _, dev q _] ++ R) zge ?_
              rw [htk]; dsimp only; rw [han]; exact ⟨_, ⟨rfl, rfl⟩, rfl⟩)
       ·(try simp only [sH] at h120)
        have hhd : W.handle D fr m = none := by unfold WitM.handle; rw [if_neg (by omega), if_neg (by omega), if_neg (by omega)]
        have htk : W.take D fr m = ((.zero, false), W, D) := by unfold WitM.take; rw [if_neg hg, hhd]
        refine cseq ?_; intro K28 hK28
        refine creg ?_
        refine y (ev_build (zs := _) rfl Tryz.underlying37 Tryz.zeroValue37 rfl (.cons Tryz.sizeOf3 (.cons Tryz.sizeOf2 (.cons Tryz.sizeOf2 (.cons Tryz.sizeOf2 (.cons Tryz.sizeOf3 (.cons Tryz.sizeOf3 (.cons Tryz.sizeOf29 (.cons Tryz.sizeOf35 (.cons Tryz.sizeOf9 (.cons Tryz.sizeOf9 .nil)))))))))) trivial (by dsimp [fillL, splice, vcells] <;> rfl)) rfl ?_
        refine ya0 (ac_storeAll rfl rfl (by first | exact bytesV_one _ | (simp [Value.oneCell']; done) | (simp only [List.forall_mem_cons, List.not_mem_nil, false_implies, implies_true, svVal_one, and_true, true_and, and_self]; first | done | simp [Value.oneCell'])) Tryz.sizeOf37 zrp (by first | rfl | assumption | (simp [*]; done) | (simp [*]; omega)) (by first | rfl | assumption | (simp [*]; done) | (simp [*]; omega))) ?_
        rintro v L' ⟨rfl, rfl⟩
        refine y (ev_assign rfl) rfl ?_
        refine ynil' (kthn (hK28 _ _ ?_))
        clear hK28
        refine cret (kbr (kthr ?_))
        first
          | (exfalso; omega; done)
          | (refine kretct Tryz.results11 rfl rfl Tryz.isAgg37 Tryz.sizeOf37 zin (rfl) (L1 := [witP s c _, celP c q _, dev q _] ++ R) zge ?_
             rw [htk]; exact ⟨_, ⟨rfl, rfl⟩, rfl⟩)
end W
end Go.Proofs
