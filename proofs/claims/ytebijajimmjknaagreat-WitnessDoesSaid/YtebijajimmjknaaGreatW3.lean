/- A part of the proof: contracts and plain lemmas, each without conditions beyond those that it names. -/
import Derived.Test.YtebijajimmjknaaGreatW2
set_option linter.unusedVariables false
set_option linter.unusedSimpArgs false
set_option linter.constructorNameAsVariable false
namespace Go.Proofs
open Go Go.Sl
namespace W
set_option linter.unusedVariables false
theorem wAsk [Env] {R : List Seg} {s c : Nat} {q : Q3} {W : WitM} {D : Dev} {fr : Int} {m : MsgM} (hW : W.ok D) (hf : fr = 0 ∨ fr = 1) :
    Con Tryz.prog 48 [ptr s, i64 fr, .agg m.cells.toArray] [witP s c W, celP c q W.c, dev q D] R (Is (i64 (W.ask D fr m).1) [witP s c (W.ask D fr m).2.1, celP c q (W.ask D fr m).2.1.c, dev q (W.ask D fr m).2.2]) := by
  have hmask := hW.f.mask
  have hwait := hW.wait
  have hep := hW.f.epoch
  have hbits := in_bits hmask hf
  refine con_enter Tryz.func48 Tryz.ntmps48 rfl rfl ?_
  unfold witP
  refine cseq ?_; intro K1 hK1
  refine creg ?_
  refine ya (ac_box (vs := m.cells) rfl rfl) rfl ?_
  rintro v L' ⟨b5, rfl, rfl⟩
  refine y (ev_assign rfl) rfl ?_
  refine ynil' (kthn (hK1 _ _ ?_))
  clear hK1
  refine cseq ?_; intro K2 hK2
  refine creg ?_
  refine y (ev_move rfl) rfl ?_
  refine y (ev_nil rfl) rfl ?_
  refine y (ev_fieldAddr 1 rfl Tryz.underlying97 rfl Tryz.sizeOf93) rfl ?_
  refine y (ev_loadN (u := W.f.cells) rfl Tryz.isAgg93 Tryz.sizeOf93 zin rfl rfl) rfl ?_
  refine ya (ac_alloc Tryz.zeroValue93 rfl) rfl ?_
  rintro v L' ⟨b7, rfl, rfl⟩
  refine ya0 (ac_storeN (vs' := W.f.cells) rfl rfl (fact_one _) Tryz.sizeOf93 zrp rfl (by decide) rfl) ?_
  rintro v L' ⟨rfl, rfl⟩
  refine ynil' (kthn (hK2 _ _ ?_))
  clear hK2
  refine cseq ?_; intro K3 hK3
  refine cblock ?_
  refine cseq ?_; intro K4 hK4
  refine creg ?_
  refine y (ev_move rfl) rfl ?_
  refine y (ev_nil rfl) rfl ?_
  refine y (ev_fieldAddr 1 rfl Tryz.underlying97 rfl Tryz.sizeOf93) rfl ?_
  refine y (ev_fieldAddr 2 rfl Tryz.underlying93 rfl Tryz.sizeOf3) rfl ?_
  refine y (ev_load rfl Tryz.isAgg3 zin rfl) rfl ?_
  refine y (ev_move rfl) rfl ?_
  refine y (ev_shr rfl rfl (by omega)) rfl ?_
  refine y (ev_and rfl rfl) rfl ?_
  rw [hbits]
  refine y (ev_eql rfl rfl) rfl ?_
  refine y (ev_assign rfl) rfl ?_
  refine ynil' (kthn (hK4 _ _ ?_))
  clear hK4
  refine ccond rfl (fun h19 => ?_) (fun h19 => ?_)
  ·(try simp only [sH] at h19)
   have hin : inM W.f.mask fr = false := by by_cases h : inM W.f.mask fr = true <;> simp_all
   have hask : W.ask D fr m = (20, W, D) := by unfold WitM.ask; rw [if_pos hin]
   refine cseq ?_; intro K5 hK5
   refine creg ?_
   refine y (ev_assign rfl) rfl ?_
   refine ynil' (kthn (hK5 _ _ ?_))
   clear hK5
   refine cret (kbr (kthr ?_))
   first
     | (exfalso; omega; done)
     | (refine kretv Tryz.results48 rfl (L1 := [witP s c _, celP c q _, dev q _] ++ R) zge ?_
        rw [hask]; exact ⟨_, ⟨rfl, rfl⟩, rfl⟩)
  ·(try simp only [sH] at h19)
   have hin : inM W.f.mask fr = true := by by_cases h : inM W.f.mask fr = true <;> simp_all
   refine cseq ?_; intro K6 hK6
   refine cdraw 22 [(0, true), (1, true), (2, true), (3, true), (4, true), (5, true), (6, true), (7, true), (8, true), (9, true), (10, true), (11, true), (12, true), (13, true), (14, true), (15, true), (16, true), (17, true), (18, true), (19, true), (20, true), (21, true)] (_) Tryz.mixed (by kernel_rfl) .refl ?_
   refine hr rfl (ev_move rfl) rfl ?_
   refine hr rfl (ev_nil rfl) rfl ?_
   refine hr rfl (ev_fieldAddr 1 rfl Tryz.underlying97 rfl Tryz.sizeOf93) rfl ?_
   refine hr rfl (ev_fieldAddr 1 rfl Tryz.underlying93 rfl Tryz.sizeOf3) rfl ?_
   refine hr rfl (ev_load rfl Tryz.isAgg3 zin rfl) rfl ?_
   refine hr rfl (ev_move rfl) rfl ?_
   refine hr rfl (ev_eql rfl rfl) rfl ?_
   refine hr rfl (ev_move rfl) rfl ?_
   refine hsplit 31 rfl (fun h29 => ?_) (fun h29 => ?_)
   ·(try simp only [sH] at h29)
    refine hr1 rfl rfl rfl (ev_fieldAddr 2 rfl Tryz.underlying37 rfl Tryz.sizeOf2) rfl ?_
    refine hr1 rfl rfl rfl (ev_load rfl Tryz.isAgg2 zin rfl) rfl ?_
    refine hr1 rfl rfl rfl (ev_eql rfl rfl) rfl ?_
    refine hr rfl (ev_pick1 rfl rfl) rfl ?_
    refine hr rfl (ev_move rfl) rfl ?_
    refine hsplit 36 rfl (fun h35 => ?_) (fun h35 => ?_)
    ·(try simp only [sH] at h35)
     refine hr1 rfl rfl rfl (ev_fieldAddr 1 rfl Tryz.underlying37 rfl Tryz.sizeOf2) rfl ?_
     refine hr1 rfl rfl rfl (ev_load rfl Tryz.isAgg2 zin rfl) rfl ?_
     refine hr1 rfl rfl rfl (ev_move rfl) rfl ?_
     refine hr1 rfl rfl rfl (ev_nil rfl) rfl ?_
     refine hr1 rfl rfl rfl (ev_fieldAddr 1 rfl Tryz.underlying97 rfl Tryz.sizeOf93) rfl ?_
     refine hr1 rfl rfl rfl (ev_fieldAddr 0 rfl Tryz.underlying93 rfl Tryz.sizeOf2) rfl ?_
     refine hr1 rfl rfl rfl (ev_load rfl Tryz.isAgg2 zin rfl) rfl ?_
     refine hr1 rfl rfl rfl (ev_eql rfl rfl) rfl ?_
     refine hr rfl (ev_pick1 rfl rfl) rfl ?_
     refine hnil ?_
     refine y (ev_assign rfl) rfl ?_
     refine hnoP' (kthn (hK6 _ _ ?_))
     clear hK6
     refine ccond rfl (fun h46 => ?_) (fun h46 => ?_)
     ·(try simp only [sH] at h46)
      have hask : W.ask D fr m = (0, W.set, D) := by unfold WitM.ask; rw [if_neg (by simp [hin]), if_pos ⟨by omega, by omega, by omega⟩]
      refine cseq ?_; intro K7 hK7
      refine cdraw 7 [(0, true), (1, true), (2, true), (3, true), (4, true), (5, true), (6, false)] (R) Tryz.mixed (by kernel_rfl) zge ?_
      refine hr rfl (ev_move rfl) rfl ?_
      refine hr rfl (ev_nil rfl) rfl ?_
      refine hr rfl (ev_fieldAddr 7 rfl Tryz.underlying97 rfl Tryz.sizeOf95) rfl ?_
      refine hr rfl (ev_move rfl) rfl ?_
      refine hr rfl (ev_nil rfl) rfl ?_
      refine hr rfl (ev_fieldAddr 8 rfl Tryz.underlying97 rfl Tryz.sizeOf2) rfl ?_
      refine ha rfl (ac_of_ev (ev_load rfl Tryz.isAgg2 zin rfl)) rfl ?_
      rintro v L' ⟨rfl, rfl⟩; refine ⟨zge, ?_⟩
      refine hnil ?_
      refine ycall (tSet (W := W)) rfl Tryz.call43 ztk rfl ?_
      rintro v L' ⟨rfl, rfl⟩
      refine hnoP' (kthn (hK7 _ _ ?_))
      clear hK7
      refine cseq ?_; intro K8 hK8
      refine creg ?_
      refine y (ev_assign rfl) rfl ?_
      refine ynil' (kthn (hK8 _ _ ?_))
      clear hK8
      refine cret (kbr (kthr ?_))
      first
        | (exfalso; omega; done)
        | (refine kretv Tryz.results48 rfl (L1 := [witP s c _, celP c q _, dev q _] ++ R) zge ?_
           rw [hask]; exact ⟨_, ⟨rfl, rfl⟩, rfl⟩)
     ·(try simp only [sH] at h46)
      refine cseq ?_; intro K9 hK9
      refine creg ?_
      have h2 : ¬ (W.f.holder = fr ∧ m.seq = 0 ∧ m.epoch = W.f.epoch) := by omega
      refine y (ev_move rfl) rfl ?_
      refine y (ev_nil rfl) rfl ?_
      refine y (ev_fieldAddr 1 rfl Tryz.underlying97 rfl Tryz.sizeOf93) rfl ?_
      refine y (ev_fieldAddr 1 rfl Tryz.underlying93 rfl Tryz.sizeOf3) rfl ?_
      refine y (ev_load rfl Tryz.isAgg3 zin rfl) rfl ?_
      refine y (ev_move rfl) rfl ?_
      refine y (ev_neq rfl rfl) rfl ?_
      refine y (ev_move rfl) rfl ?_
      refine ysplit 62 rfl (fun h64 => ?_) (fun h64 => ?_)
      ·(try simp only [sH] at h64)
       refine yg1 rfl rfl ?_
       refine y (ev_move rfl) rfl ?_
       refine yg1 rfl rfl ?_
       refine y (ev_nil rfl) rfl ?_
       refine yg1 rfl rfl ?_
       refine y (ev_fieldAddr 7 rfl Tryz.underlying97 rfl Tryz.sizeOf95) rfl ?_
       refine yg1 rfl rfl ?_
       refine ycall (tOn (W := W)) rfl Tryz.call80 ztk rfl ?_
       rintro v L' ⟨rfl, rfl⟩
       refine y (ev_pick1 rfl rfl) rfl ?_
       refine y (ev_assign rfl) rfl ?_
       refine ynil' (kthn (hK9 _ _ ?_))
       clear hK9
       refine ccond rfl (fun h71 => ?_) (fun h71 => ?_)
       ·(try simp only [sH] at h71)
        have hask : W.ask D fr m = (25, W, D) := by unfold WitM.ask; rw [if_neg (by simp [hin]), if_neg h2, if_pos ⟨by omega, by omega⟩]
        refine cseq ?_; intro K10 hK10
        refine creg ?_
        refine y (ev_assign rfl) rfl ?_
        refine ynil' (kthn (hK10 _ _ ?_))
        clear hK10
        refine cret (kbr (kthr ?_))
        first
          | (exfalso; omega; done)
          | (refine kretv Tryz.results48 rfl (L1 := [witP s c _, celP c q _, dev q _] ++ R) zge ?_
             rw [hask]; exact ⟨_, ⟨rfl, rfl⟩, rfl⟩)
       ·(try simp only [sH] at h71)
        refine cseq ?_; intro K11 hK11
        refine creg ?_
        have h3 : ¬ (W.f.holder ≠ fr ∧ 0 < W.left) := by omega
        refine y (ev_move rfl) rfl ?_
        refine y (ev_nil rfl) rfl ?_
        refine y (ev_fieldAddr 1 rfl Tryz.underlying97 rfl Tryz.sizeOf93) rfl ?_
        refine y (ev_fieldAddr 0 rfl Tryz.underlying93 rfl Tryz.sizeOf2) rfl ?_
        refine y (ev_load rfl Tryz.isAgg2 zin rfl) rfl ?_
        refine y (ev_eql rfl rfl) rfl ?_
        refine y (ev_assign rfl) rfl ?_
        refine ynil' (kthn (hK11 _ _ ?_))
        clear hK11
        refine ccond rfl (fun h80 => ?_) (fun h80 => ?_)
        ·(try simp only [sH] at h80)
         have hask : W.ask D fr m = (22, W, D) := by unfold WitM.ask; rw [if_neg (by simp [hin]), if_neg h2, if_neg h3, if_pos (by omega)]
         refine cseq ?_; intro K12 hK12
         refine creg ?_
         refine y (ev_assign rfl) rfl ?_
         refine ynil' (kthn (hK12 _ _ ?_))
         clear hK12
         refine cret (kbr (kthr ?_))
         first
           | (exfalso; omega; done)
           | (refine kretv Tryz.results48 rfl (L1 := [witP s c _, celP c q _, dev q _] ++ R) zge ?_
              rw [hask]; exact ⟨_, ⟨rfl, rfl⟩, rfl⟩)
        ·(try simp only [sH] at h80)
         have hfo := askF_ok hW hf (by omega)
         obtain ⟨r, hr0⟩ : ∃ r, W.put D { W.f with epoch := W.f.epoch + 1, holder := fr, change := 0 } = r := ⟨_, rfl⟩
         have hask : W.ask D fr m = (r.1, if r.1 = 0 then r.2.1.set else r.2.1, r.2.2) := by unfold WitM.ask; rw [if_neg (by simp [hin]), if_neg h2, if_neg h3, if_neg (by omega)]; dsimp only; rw [hr0]
         refine cskip' (kbn (kthn (hK3 _ _ ?_)))
         clear hK3
         refine cseq ?_; intro K13 hK13
         refine creg ?_
         refine y (ev_fieldAddr 0 rfl Tryz.underlying93 rfl Tryz.sizeOf2) rfl ?_
         refine y (ev_load rfl Tryz.isAgg2 zin rfl) rfl ?_
         refine y (ev_add rfl rfl) rfl ?_
         rw [wr (by omega) (by omega)]
         refine y (ev_move rfl) rfl ?_
         refine y (ev_fieldAddr 0 rfl Tryz.underlying93 rfl Tryz.sizeOf2) rfl ?_
         refine ya0 (ac_store rfl rfl (by first | rfl | exact svVal_one _ _ | assumption) Tryz.sizeOf2 zrp rfl rfl) ?_
         rintro v L' ⟨rfl, rfl⟩
         refine y (ev_fieldAddr 1 rfl Tryz.underlying93 rfl Tryz.sizeOf3) rfl ?_
         refine ya0 (ac_store rfl rfl (by first | rfl | exact svVal_one _ _ | assumption) Tryz.sizeOf3 zrp rfl rfl) ?_
         rintro v L' ⟨rfl, rfl⟩
         refine y (ev_fieldAddr 3 rfl Tryz.underlying93 rfl Tryz.sizeOf2) rfl ?_
         refine ya0 (ac_store rfl rfl (by first | rfl | exact svVal_one _ _ | assumption) Tryz.sizeOf2 zrp rfl rfl) ?_
         rintro v L' ⟨rfl, rfl⟩
         refine ynil' (kthn (hK13 _ _ ?_))
         clear hK13
         refine cseq ?_; intro K14 hK14
         refine creg ?_
         refine y (ev_move rfl) rfl ?_
         refine y (ev_loadAll rfl Tryz.isAgg93 Tryz.sizeOf93 zin (by first | rfl | assumption | (simp [*]; done) | (simp [*]; omega))) rfl ?_
         refine ycall (wPut (W := W) (f := { W.f with epoch := W.f.epoch + 1, holder := fr, change := 0 }) ?wok94 ?fok94) rfl Tryz.call79 ztk rfl ?_
         case wok94 => exact hW
         case fok94 => exact hfo
         rintro v L' ⟨rfl, rfl⟩
         rw [hr0]
         refine y (ev_assign rfl) rfl ?_
         refine ynil' (kthn (hK14 _ _ ?_))
         clear hK14
         refine cseq ?_; intro K15 hK15
         refine cseq ?_; intro K16 hK16
         refine creg ?_
         refine y (ev_move rfl) rfl ?_
         refine y (ev_eql rfl rfl) rfl ?_
         refine ynil' (kthn (hK16 _ _ ?_))
         clear hK16
         refine ccond rfl (fun h98 => ?_) (fun h98 => ?_)
         ·(try simp only [sH] at h98)
          rw [if_pos h98] at hask
          refine cdraw 7 [(0, true), (1, true), (2, true), (3, true), (4, true), (5, true), (6, false)] (R) Tryz.mixed (by kernel_rfl) zge ?_
          unfold witP
          refine hr rfl (ev_move rfl) rfl ?_
          refine hr rfl (ev_nil rfl) rfl ?_
          refine hr rfl (ev_fieldAddr 7 rfl Tryz.underlying97 rfl Tryz.sizeOf95) rfl ?_
          refine hr rfl (ev_move rfl) rfl ?_
          refine hr rfl (ev_nil rfl) rfl ?_
          refine hr rfl (ev_fieldAddr 8 rfl Tryz.underlying97 rfl Tryz.sizeOf2) rfl ?_
          refine ha rfl (ac_of_ev (ev_load rfl Tryz.isAgg2 zin rfl)) rfl ?_
          rintro v L' ⟨rfl, rfl⟩; refine ⟨zge, ?_⟩
          refine hnil ?_
          refine ycall (tSet (W := r.2.1)) rfl Tryz.call43 ztk rfl ?_
          rintro v L' ⟨rfl, rfl⟩
          refine hnoP' (kthn (hK15 _ _ ?_))
          clear hK15
          refine cseq ?_; intro K17 hK17
          refine creg ?_
          refine y (ev_move rfl) rfl ?_
          refine y (ev_assign rfl) rfl ?_
          refine ynil' (kthn (hK17 _ _ ?_))
          clear hK17
          refine cret ?_
          first
            | (exfalso; omega; done)
            | (refine kretv Tryz.results48 rfl (L1 := [witP s c _, celP c q _, dev q _] ++ R) zge ?_
               rw [hask]; exact ⟨_, ⟨rfl, rfl⟩, rfl⟩)
         ·(try simp only [sH] at h98)
          rw [if_neg h98] at hask
          refine cskip' (kthn (hK15 _ _ ?_))
          clear hK15
          refine cseq ?_; intro K18 hK18
          refine creg ?_
          refine y (ev_move rfl) rfl ?_
          refine y (ev_assign rfl) rfl ?_
          refine ynil' (kthn (hK18 _ _ ?_))
          clear hK18
          refine cret ?_
          first
            | (exfalso; omega; done)
            | (refine kretv Tryz.results48 rfl (L1 := [witP s c _, celP c q _, dev q _] ++ R) zge ?_
               rw [hask]; exact ⟨_, ⟨rfl, rfl⟩, rfl⟩)
      ·(try simp only [sH] at h64)
       refine yg0 rfl rfl rfl rfl ?_
       refine yg0 rfl rfl rfl rfl ?_
       refine yg0 rfl rfl rfl rfl ?_
       refine yg0 rfl rfl rfl rfl ?_
       refine y (ev_pick0 rfl rfl) rfl ?_
       refine y (ev_assign rfl) rfl ?_
       refine ynil' (kthn (hK9 _ _ ?_))
       clear hK9
       refine ccond0 rfl ?_
       refine cseq ?_; intro K19 hK19
       refine creg ?_
       have h3 : ¬ (W.f.holder ≠ fr ∧ 0 < W.left) := by omega
       refine y (ev_move rfl) rfl ?_
       refine y (ev_nil rfl) rfl ?_
       refine y (ev_fieldAddr 1 rfl Tryz.underlying97 rfl Tryz.sizeOf93) rfl ?_
       refine y (ev_fieldAddr 0 rfl Tryz.underlying93 rfl Tryz.sizeOf2) rfl ?_
       refine y (ev_load rfl Tryz.isAgg2 zin rfl) rfl ?_
       refine y (ev_eql rfl rfl) rfl ?_
       refine y (ev_assign rfl) rfl ?_
       refine ynil' (kthn (hK19 _ _ ?_))
       clear hK19
       refine ccond rfl (fun h120 => ?_) (fun h120 => ?_)
       ·(try simp only [sH] at h120)
        have hask : W.ask D fr m = (22, W, D) := by unfold WitM.ask; rw [if_neg (by simp [hin]), if_neg h2, if_neg h3, if_pos (by omega)]
        refine cseq ?_; intro K20 hK20
        refine creg ?_
        refine y (ev_assign rfl) rfl ?_
        refine ynil' (kthn (hK20 _ _ ?_))
        clear hK20
        refine cret (kbr (kthr ?_))
        first
          | (exfalso; omega; done)
          | (refine kretv Tryz.results48 rfl (L1 := [witP s c _, celP c q _, dev q _] ++ R) zge ?_
             rw [hask]; exact ⟨_, ⟨rfl, rfl⟩, rfl⟩)
       ·(try simp only [sH] at h120)
        have hfo := askF_ok hW hf (by omega)
        obtain ⟨r, hr0⟩ : ∃ r, W.put D { W.f with epoch := W.f.epoch + 1, holder := fr, change := 0 } = r := ⟨_, rfl⟩
        have hask : W.ask D fr m = (r.1, if r.1 = 0 then r.2.1.set else r.2.1, r.2.2) := by unfold WitM.ask; rw [if_neg (by simp [hin]), if_neg h2, if_neg h3, if_neg (by omega)]; dsimp only; rw [hr0]
        refine cskip' (kbn (kthn (hK3 _ _ ?_)))
        clear hK3
        refine cseq ?_; intro K21 hK21
        refine creg ?_
        refine y (ev_fieldAddr 0 rfl Tryz.underlying93 rfl Tryz.sizeOf2) rfl ?_
        refine y (ev_load rfl Tryz.isAgg2 zin rfl) rfl ?_
        refine y (ev_add rfl rfl) rfl ?_
        rw [wr (by omega) (by omega)]
        refine y (ev_move rfl) rfl ?_
        refine y (ev_fieldAddr 0 rfl Tryz.underlying93 rfl Tryz.sizeOf2) rfl ?_
        refine ya0 (ac_store rfl rfl (by first | rfl | exact svVal_one _ _ | assumption) Tryz.sizeOf2 zrp rfl rfl) ?_
        rintro v L' ⟨rfl, rfl⟩
        refine y (ev_fieldAddr 1 rfl Tryz.underlying93 rfl Tryz.sizeOf3) rfl ?_
        refine ya0 (ac_store rfl rfl (by first | rfl | exact svVal_one _ _ | assumption) Tryz.sizeOf3 zrp rfl rfl) ?_
        rintro v L' ⟨rfl, rfl⟩
        refine y (ev_fieldAddr 3 rfl Tryz.underlying93 rfl Tryz.sizeOf2) rfl ?_
        refine ya0 (ac_store rfl rfl (by first | rfl | exact svVal_one _ _ | assumption) Tryz.sizeOf2 zrp rfl rfl) ?_
        rintro v L' ⟨rfl, rfl⟩
        refine ynil' (kthn (hK21 _ _ ?_))
        clear hK21
        refine cseq ?_; intro K22 hK22
        refine creg ?_
        refine y (ev_move rfl) rfl ?_
        refine y (ev_loadAll rfl Tryz.isAgg93 Tryz.sizeOf93 zin (by first | rfl | assumption | (simp [*]; done) | (simp [*]; omega))) rfl ?_
        refine ycall (wPut (W := W) (f := { W.f with epoch := W.f.epoch + 1, holder := fr, change := 0 }) ?wok134 ?fok134) rfl Tryz.call79 ztk rfl ?_
        case wok134 => exact hW
        case fok134 => exact hfo
        rintro v L' ⟨rfl, rfl⟩
        rw [hr0]
        refine y (ev_assign rfl) rfl ?_
        refine ynil' (kthn (hK22 _ _ ?_))
        clear hK22
        refine cseq ?_; intro K23 hK23
        refine cseq ?_; intro K24 hK24
        refine creg ?_
        refine y (ev_move rfl) rfl ?_
        refine y (ev_eql rfl rfl) rfl ?_
        refine ynil' (kthn (hK24 _ _ ?_))
        clear hK24
        refine ccond rfl (fun h138 => ?_) (fun h138 => ?_)
        ·(try simp only [sH] at h138)
         rw [if_pos h138] at hask
         refine cdraw 7 [(0, true), (1, true), (2, true), (3, true), (4, true), (5, true), (6, false)] (R) Tryz.mixed (by kernel_rfl) zge ?_
         unfold witP
         refine hr rfl (ev_move rfl) rfl ?_
         refine hr rfl (ev_nil rfl) rfl ?_
         refine hr rfl (ev_fieldAddr 7 rfl Tryz.underlying97 rfl Tryz.sizeOf95) rfl ?_
         refine hr rfl (ev_move rfl) rfl ?_
         refine hr rfl (ev_nil rfl) rfl ?_
         refine hr rfl (ev_fieldAddr 8 rfl Tryz.underlying97 rfl Tryz.sizeOf2) rfl ?_
         refine ha rfl (ac_of_ev (ev_load rfl Tryz.isAgg2 zin rfl)) rfl ?_
         rintro v L' ⟨rfl, rfl⟩; refine ⟨zge, ?_⟩
         refine hnil ?_
         refine ycall (tSet (W := r.2.1)) rfl Tryz.call43 ztk rfl ?_
         rintro v L' ⟨rfl, rfl⟩
         refine hnoP' (kthn (hK23 _ _ ?_))
         clear hK23
         refine cseq ?_; intro K25 hK25
         refine creg ?_
         refine y (ev_move rfl) rfl ?_
         refine y (ev_assign rfl) rfl ?_
         refine ynil' (kthn (hK25 _ _ ?_))
         clear hK25
         refine cret ?_
         first
           | (exfalso; omega; done)
           | (refine kretv Tryz.results48 rfl (L1 := [witP s c _, celP c q _, dev q _] ++ R) zge ?_
              rw [hask]; exact ⟨_, ⟨rfl, rfl⟩, rfl⟩)
        ·(try simp only [sH] at h138)
         rw [if_neg h138] at hask
         refine cskip' (kthn (hK23 _ _ ?_))
         clear hK23
         refine cseq ?_; intro K26 hK26
         refine creg ?_
         refine y (ev_move rfl) rfl ?_
         refine y (ev_assign rfl) rfl ?_
         refine ynil' (kthn (hK26 _ _ ?_))
         clear hK26
         refine cret ?_
         first
           | (exfalso; omega; done)
           | (refine kretv Tryz.results48 rfl (L1 := [witP s c _, celP c q _, dev q _] ++ R) zge ?_
              rw [hask]; exact ⟨_, ⟨rfl, rfl⟩, rfl⟩)
    ·(try simp only [sH] at h35)
     refine hr0 rfl rfl rfl rfl rfl ?_
     refine hr0 rfl rfl rfl rfl rfl ?_
     refine hr0 rfl rfl rfl rfl rfl ?_
     refine hr0 rfl rfl rfl rfl rfl ?_
     refine hr0 rfl rfl rfl rfl rfl ?_
     refine hr0 rfl rfl rfl rfl rfl ?_
     refine hr0 rfl rfl rfl rfl rfl ?_
     refine hr0 rfl rfl rfl rfl rfl ?_
     refine hr rfl (ev_pick0 rfl rfl) rfl ?_
     refine hnil ?_
     refine y (ev_assign rfl) rfl ?_
     refine hnoP' (kthn (hK6 _ _ ?_))
     clear hK6
     refine ccond0 rfl ?_
     refine cseq ?_; intro K27 hK27
     refine creg ?_
     have h2 : ¬ (W.f.holder = fr ∧ m.seq = 0 ∧ m.epoch = W.f.epoch) := by omega
     refine y (ev_move rfl) rfl ?_
     refine y (ev_nil rfl) rfl ?_
     refine y (ev_fieldAddr 1 rfl Tryz.underlying97 rfl Tryz.sizeOf93) rfl ?_
     refine y (ev_fieldAddr 1 rfl Tryz.underlying93 rfl Tryz.sizeOf3) rfl ?_
     refine y (ev_load rfl Tryz.isAgg3 zin rfl) rfl ?_
     refine y (ev_move rfl) rfl ?_
     refine y (ev_neq rfl rfl) rfl ?_
     refine y (ev_move rfl) rfl ?_
     refine ysplit 62 rfl (fun h161 => ?_) (fun h161 => ?_)
     ·(try simp only [sH] at h161)
      refine yg1 rfl rfl ?_
      refine y (ev_move rfl) rfl ?_
      refine yg1 rfl rfl ?_
      refine y (ev_nil rfl) rfl ?_
      refine yg1 rfl rfl ?_
      refine y (ev_fieldAddr 7 rfl Tryz.underlying97 rfl Tryz.sizeOf95) rfl ?_
      refine yg1 rfl rfl ?_
      refine ycall (tOn (W := W)) rfl Tryz.call80 ztk rfl ?_
      rintro v L' ⟨rfl, rfl⟩
      refine y (ev_pick1 rfl rfl) rfl ?_
      refine y (ev_assign rfl) rfl ?_
      refine ynil' (kthn (hK27 _ _ ?_))
      clear hK27
      refine ccond rfl (fun h168 => ?_) (fun h168 => ?_)
      ·(try simp only [sH] at h168)
       have hask : W.ask D fr m = (25, W, D) := by unfold WitM.ask; rw [if_neg (by simp [hin]), if_neg h2, if_pos ⟨by omega, by omega⟩]
       refine cseq ?_; intro K28 hK28
       refine creg ?_
       refine y (ev_assign rfl) rfl ?_
       refine ynil' (kthn (hK28 _ _ ?_))
       clear hK28
       refine cret (kbr (kthr ?_))
       first
         | (exfalso; omega; done)
         | (refine kretv Tryz.results48 rfl (L1 := [witP s c _, celP c q _, dev q _] ++ R) zge ?_
            rw [hask]; exact ⟨_, ⟨rfl, rfl⟩, rfl⟩)
      ·(try simp only [sH] at h168)
       refine cseq ?_; intro K29 hK29
       refine creg ?_
       have h3 : ¬ (W.f.holder ≠ fr ∧ 0 < W.left) := by omega
       refine y (ev_move rfl) rfl ?_
       refine y (ev_nil rfl) rfl ?_
       refine y (ev_fieldAddr 1 rfl Tryz.underlying97 rfl Tryz.sizeOf93) rfl ?_
       refine y (ev_fieldAddr 0 rfl Tryz.underlying93 rfl Tryz.sizeOf2) rfl ?_
       refine y (ev_load rfl Tryz.isAgg2 zin rfl) rfl ?_
       refine y (ev_eql rfl rfl) rfl ?_
       refine y (ev_assign rfl) rfl ?_
       refine ynil' (kthn (hK29 _ _ ?_))
       clear hK29
       refine ccond rfl (fun h177 => ?_) (fun h177 => ?_)
       ·(try simp only [sH] at h177)
        have hask : W.ask D fr m = (22, W, D) := by unfold WitM.ask; rw [if_neg (by simp [hin]), if_neg h2, if_neg h3, if_pos (by omega)]
        refine cseq ?_; intro K30 hK30
        refine creg ?_
        refine y (ev_assign rfl) rfl ?_
        refine ynil' (kthn (hK30 _ _ ?_))
        clear hK30
        refine cret (kbr (kthr ?_))
        first
          | (exfalso; omega; done)
          | (refine kretv Tryz.results48 rfl (L1 := [witP s c _, celP c q _, dev q _] ++ R) zge ?_
             rw [hask]; exact ⟨_, ⟨rfl, rfl⟩, rfl⟩)
       ·(try simp only [sH] at h177)
        have hfo := askF_ok hW hf (by omega)
        obtain ⟨r, hr0⟩ : ∃ r, W.put D { W.f with epoch := W.f.epoch + 1, holder := fr, change := 0 } = r := ⟨_, rfl⟩
        have hask : W.ask D fr m = (r.1, if r.1 = 0 then r.2.1.set else r.2.1, r.2.2) := by unfold WitM.ask; rw [if_neg (by simp [hin]), if_neg h2, if_neg h3, if_neg (by omega)]; dsimp only; rw [hr0]
        refine cskip' (kbn (kthn (hK3 _ _ ?_)))
        clear hK3
        refine cseq ?_; intro K31 hK31
        refine creg ?_
        refine y (ev_fieldAddr 0 rfl Tryz.underlying93 rfl Tryz.sizeOf2) rfl ?_
        refine y (ev_load rfl Tryz.isAgg2 zin rfl) rfl ?_
        refine y (ev_add rfl rfl) rfl ?_
        rw [wr (by omega) (by omega)]
        refine y (ev_move rfl) rfl ?_
        refine y (ev_fieldAddr 0 rfl Tryz.underlying93 rfl Tryz.sizeOf2) rfl ?_
        refine ya0 (ac_store rfl rfl (by first | rfl | exact svVal_one _ _ | assumption) Tryz.sizeOf2 zrp rfl rfl) ?_
        rintro v L' ⟨rfl, rfl⟩
        refine y (ev_fieldAddr 1 rfl Tryz.underlying93 rfl Tryz.sizeOf3) rfl ?_
        refine ya0 (ac_store rfl rfl (by first | rfl | exact svVal_one _ _ | assumption) Tryz.sizeOf3 zrp rfl rfl) ?_
        rintro v L' ⟨rfl, rfl⟩
        refine y (ev_fieldAddr 3 rfl Tryz.underlying93 rfl Tryz.sizeOf2) rfl ?_
        refine ya0 (ac_store rfl rfl (by first | rfl | exact svVal_one _ _ | assumption) Tryz.sizeOf2 zrp rfl rfl) ?_
        rintro v L' ⟨rfl, rfl⟩
        refine ynil' (kthn (hK31 _ _ ?_))
        clear hK31
        refine cseq ?_; intro K32 hK32
        refine creg ?_
        refine y (ev_move rfl) rfl ?_
        refine y (ev_loadAll rfl Tryz.isAgg93 Tryz.sizeOf93 zin (by first | rfl | assumption | (simp [*]; done) | (simp [*]; omega))) rfl ?_
        refine ycall (wPut (W := W) (f := { W.f with epoch := W.f.epoch + 1, holder := fr, change := 0 }) ?wok191 ?fok191) rfl Tryz.call79 ztk rfl ?_
        case wok191 => exact hW
        case fok191 => exact hfo
        rintro v L' ⟨rfl, rfl⟩
        rw [hr0]
        refine y (ev_assign rfl) rfl ?_
        refine ynil' (kthn (hK32 _ _ ?_))
        clear hK32
        refine cseq ?_; intro K33 hK33
        refine cseq ?_; intro K34 hK34
        refine creg ?_
        refine y (ev_move rfl) rfl ?_
        refine y (ev_eql rfl rfl) rfl ?_
        refine ynil' (kthn (hK34 _ _ ?_))
        clear hK34
        refine ccond rfl (fun h195 => ?_) (fun h195 => ?_)
        ·(try simp only [sH] at h195)
         rw [if_pos h195] at hask
         refine cdraw 7 [(0, true), (1, true), (2, true), (3, true), (4, true), (5, true), (6, false)] (R) Tryz.mixed (by kernel_rfl) zge ?_
         unfold witP
         refine hr rfl (ev_move rfl) rfl ?_
         refine hr rfl (ev_nil rfl) rfl ?_
         refine hr rfl (ev_fieldAddr 7 rfl Tryz.underlying97 rfl Tryz.sizeOf95) rfl ?_
         refine hr rfl (ev_move rfl) rfl ?_
         refine hr rfl (ev_nil rfl) rfl ?_
         refine hr rfl (ev_fieldAddr 8 rfl Tryz.underlying97 rfl Tryz.sizeOf2) rfl ?_
         refine ha rfl (ac_of_ev (ev_load rfl Tryz.isAgg2 zin rfl)) rfl ?_
         rintro v L' ⟨rfl, rfl⟩; refine ⟨zge, ?_⟩
         refine hnil ?_
         refine ycall (tSet (W := r.2.1)) rfl Tryz.call43 ztk rfl ?_
         rintro v L' ⟨rfl, rfl⟩
         refine hnoP' (kthn (hK33 _ _ ?_))
         clear hK33
         refine cseq ?_; intro K35 hK35
         refine creg ?_
         refine y (ev_move rfl) rfl ?_
         refine y (ev_assign rfl) rfl ?_
         refine ynil' (kthn (hK35 _ _ ?_))
         clear hK35
         refine cret ?_
         first
           | (exfalso; omega; done)
           | (refine kretv Tryz.results48 rfl (L1 := [witP s c _, celP c q _, dev q _] ++ R) zge ?_
              rw [hask]; exact ⟨_, ⟨rfl, rfl⟩, rfl⟩)
        ·(try simp only [sH] at h195)
         rw [if_neg h195] at hask
         refine cskip' (kthn (hK33 _ _ ?_))
         clear hK33
         refine cseq ?_; intro K36 hK36
         refine creg ?_
         refine y (ev_move rfl) rfl ?_
         refine y (ev_assign rfl) rfl ?_
         refine ynil' (kthn (hK36 _ _ ?_))
         clear hK36
         refine cret ?_
         first
           | (exfalso; omega; done)
           | (refine kretv Tryz.results48 rfl (L1 := [witP s c _, celP c q _, dev q _] ++ R) zge ?_
              rw [hask]; exact ⟨_, ⟨rfl, rfl⟩, rfl⟩)
     ·(try simp only [sH] at h161)
      refine yg0 rfl rfl rfl rfl ?_
      refine yg0 rfl rfl rfl rfl ?_
      refine yg0 rfl rfl rfl rfl ?_
      refine yg0 rfl rfl rfl rfl ?_
      refine y (ev_pick0 rfl rfl) rfl ?_
      refine y (ev_assign rfl) rfl ?_
      refine ynil' (kthn (hK27 _ _ ?_))
      clear hK27
      refine ccond0 rfl ?_
      refine cseq ?_; intro K37 hK37
      refine creg ?_
      have h3 : ¬ (W.f.holder ≠ fr ∧ 0 < W.left) := by omega
      refine y (ev_move rfl) rfl ?_
      refine y (ev_nil rfl) rfl ?_
      refine y (ev_fieldAddr 1 rfl Tryz.underlying97 rfl Tryz.sizeOf93) rfl ?_
      refine y (ev_fieldAddr 0 rfl Tryz.underlying93 rfl Tryz.sizeOf2) rfl ?_
      refine y (ev_load rfl Tryz.isAgg2 zin rfl) rfl ?_
      refine y (ev_eql rfl rfl) rfl ?_
      refine y (ev_assign rfl) rfl ?_
      refine ynil' (kthn (hK37 _ _ ?_))
      clear hK37
      refine ccond rfl (fun h217 => ?_) (fun h217 => ?_)
      ·(try simp only [sH] at h217)
       have hask : W.ask D fr m = (22, W, D) := by unfold WitM.ask; rw [if_neg (by simp [hin]), if_neg h2, if_neg h3, if_pos (by omega)]
       refine cseq ?_; intro K38 hK38
       refine creg ?_
       refine y (ev_assign rfl) rfl ?_
       refine ynil' (kthn (hK38 _ _ ?_))
       clear hK38
       refine cret (kbr (kthr ?_))
       first
         | (exfalso; omega; done)
         | (refine kretv Tryz.results48 rfl (L1 := [witP s c _, celP c q _, dev q _] ++ R) zge ?_
            rw [hask]; exact ⟨_, ⟨rfl, rfl⟩, rfl⟩)
      ·(try simp only [sH] at h217)
       have hfo := askF_ok hW hf (by omega)
       obtain ⟨r, hr0⟩ : ∃ r, W.put D { W.f with epoch := W.f.epoch + 1, holder := fr, change := 0 } = r := ⟨_, rfl⟩
       have hask : W.ask D fr m = (r.1, if r.1 = 0 then r.2.1.set else r.2.1, r.2.2) := by unfold WitM.ask; rw [if_neg (by simp [hin]), if_neg h2, if_neg h3, if_neg (by omega)]; dsimp only; rw [hr0]
       refine cskip' (kbn (kthn (hK3 _ _ ?_)))
       clear hK3
       refine cseq ?_; intro K39 hK39
       refine creg ?_
       refine y (ev_fieldAddr 0 rfl Tryz.underlying93 rfl Tryz.sizeOf2) rfl ?_
       refine y (ev_load rfl Tryz.isAgg2 zin rfl) rfl ?_
       refine y (ev_add rfl rfl) rfl ?_
       rw [wr (by omega) (by omega)]
       refine y (ev_move rfl) rfl ?_
       refine y (ev_fieldAddr 0 rfl Tryz.underlying93 rfl Tryz.sizeOf2) rfl ?_
       refine ya0 (ac_store rfl rfl (by first | rfl | exact svVal_one _ _ | assumption) Tryz.sizeOf2 zrp rfl rfl) ?_
       rintro v L' ⟨rfl, rfl⟩
       refine y (ev_fieldAddr 1 rfl Tryz.underlying93 rfl Tryz.sizeOf3) rfl ?_
       refine ya0 (ac_store rfl rfl (by first | rfl | exact svVal_one _ _ | assumption) Tryz.sizeOf3 zrp rfl rfl) ?_
       rintro v L' ⟨rfl, rfl⟩
       refine y (ev_fieldAddr 3 rfl Tryz.underlying93 rfl Tryz.sizeOf2) rfl ?_
       refine ya0 (ac_store rfl rfl (by first | rfl | exact svVal_one _ _ | assumption) Tryz.sizeOf2 zrp rfl rfl) ?_
       rintro v L' ⟨rfl, rfl⟩
       refine ynil' (kthn (hK39 _ _ ?_))
       clear hK39
       refine cseq ?_; intro K40 hK40
       refine creg ?_
       refine y (ev_move rfl) rfl ?_
       refine y (ev_loadAll rfl Tryz.isAgg93 Tryz.sizeOf93 zin (by first | rfl | assumption | (simp [*]; done) | (simp [*]; omega))) rfl ?_
       refine ycall (wPut (W := W) (f := { W.f with epoch := W.f.epoch + 1, holder := fr, change := 0 }) ?wok231 ?fok231) rfl Tryz.call79 ztk rfl ?_
       case wok231 => exact hW
       case fok231 => exact hfo
       rintro v L' ⟨rfl, rfl⟩
       rw [hr0]
       refine y (ev_assign rfl) rfl ?_
       refine ynil' (kthn (hK40 _ _ ?_))
       clear hK40
       refine cseq ?_; intro K41 hK41
       refine cseq ?_; intro K42 hK42
       refine creg ?_
       refine y (ev_move rfl) rfl ?_
       refine y (ev_eql rfl rfl) rfl ?_
       refine ynil' (kthn (hK42 _ _ ?_))
       clear hK42
       refine ccond rfl (fun h235 => ?_) (fun h235 => ?_)
       ·(try simp only [sH] at h235)
        rw [if_pos h235] at hask
        refine cdraw 7 [(0, true), (1, true), (2, true), (3, true), (4, true), (5, true), (6, false)] (R) Tryz.mixed (by kernel_rfl) zge ?_
        unfold witP
        refine hr rfl (ev_move rfl) rfl ?_
        refine hr rfl (ev_nil rfl) rfl ?_
        refine hr rfl (ev_fieldAddr 7 rfl Tryz.underlying97 rfl Tryz.sizeOf95) rfl ?_
        refine hr rfl (ev_move rfl) rfl ?_
        refine hr rfl (ev_nil rfl) rfl ?_
        refine hr rfl (ev_fieldAddr 8 rfl Tryz.underlying97 rfl Tryz.sizeOf2) rfl ?_
        refine ha rfl (ac_of_ev (ev_load rfl Tryz.isAgg2 zin rfl)) rfl ?_
        rintro v L' ⟨rfl, rfl⟩; refine ⟨zge, ?_⟩
        refine hnil ?_
        refine ycall (tSet (W := r.2.1)) rfl Tryz.call43 ztk rfl ?_
        rintro v L' ⟨rfl, rfl⟩
        refine hnoP' (kthn (hK41 _ _ ?_))
        clear hK41
        refine cseq ?_; intro K43 hK43
        refine creg ?_
        refine y (ev_move rfl) rfl ?_
        refine y (ev_assign rfl) rfl ?_
        refine ynil' (kthn (hK43 _ _ ?_))
        clear hK43
        refine cret ?_
        first
          | (exfalso; omega; done)
          | (refine kretv Tryz.results48 rfl (L1 := [witP s c _, celP c q _, dev q _] ++ R) zge ?_
             rw [hask]; exact ⟨_, ⟨rfl, rfl⟩, rfl⟩)
       ·(try simp only [sH] at h235)
        rw [if_neg h235] at hask
        refine cskip' (kthn (hK41 _ _ ?_))
        clear hK41
        refine cseq ?_; intro K44 hK44
        refine creg ?_
        refine y (ev_move rfl) rfl ?_
        refine y (ev_assign rfl) rfl ?_
        refine ynil' (kthn (hK44 _ _ ?_))
        clear hK44
        refine cret ?_
        first
          | (exfalso; omega; done)
          | (refine kretv Tryz.results48 rfl (L1 := [witP s c _, celP c q _, dev q _] ++ R) zge ?_
             rw [hask]; exact ⟨_, ⟨rfl, rfl⟩, rfl⟩)
   ·(try simp only [sH] at h29)
    refine hr0 rfl rfl rfl rfl rfl ?_
    refine hr0 rfl rfl rfl rfl rfl ?_
    refine hr0 rfl rfl rfl rfl rfl ?_
    refine hr rfl (ev_pick0 rfl rfl) rfl ?_
    refine hr rfl (ev_move rfl) rfl ?_
    refine hr0 rfl rfl rfl rfl rfl ?_
    refine hr0 rfl rfl rfl rfl rfl ?_
    refine hr0 rfl rfl rfl rfl rfl ?_
    refine hr0 rfl rfl rfl rfl rfl ?_
    refine hr0 rfl rfl rfl rfl rfl ?_
    refine hr0 rfl rfl rfl rfl rfl ?_
    refine hr0 rfl rfl rfl rfl rfl ?_
    refine hr0 rfl rfl rfl rfl rfl ?_
    refine hr rfl (ev_pick0 rfl rfl) rfl ?_
    refine hnil ?_
    refine y (ev_assign rfl) rfl ?_
    refine hnoP' (kthn (hK6 _ _ ?_))
    clear hK6
    refine ccond0 rfl ?_
    refine cseq ?_; intro K45 hK45
    refine creg ?_
    have h2 : ¬ (W.f.holder = fr ∧ m.seq = 0 ∧ m.epoch = W.f.epoch) := by omega
    refine y (ev_move rfl) rfl ?_
    refine y (ev_nil rfl) rfl ?_
    refine y (ev_fieldAddr 1 rfl Tryz.underlying97 rfl Tryz.sizeOf93) rfl ?_
    refine y (ev_fieldAddr 1 rfl Tryz.underlying93 rfl Tryz.sizeOf3) rfl ?_
    refine y (ev_load rfl Tryz.isAgg3 zin rfl) rfl ?_
    refine y (ev_move rfl) rfl ?_
    refine y (ev_neq rfl rfl) rfl ?_
    refine y (ev_move rfl) rfl ?_
    refine ysplit 62 rfl (fun h260 => ?_) (fun h260 => ?_)
    ·(try simp only [sH] at h260)
     refine yg1 rfl rfl ?_
     refine y (ev_move rfl) rfl ?_
     refine yg1 rfl rfl ?_
     refine y (ev_nil rfl) rfl ?_
     refine yg1 rfl rfl ?_
     refine y (ev_fieldAddr 7 rfl Tryz.underlying97 rfl Tryz.sizeOf95) rfl ?_
     refine yg1 rfl rfl ?_
     refine ycall (tOn (W := W)) rfl Tryz.call80 ztk rfl ?_
     rintro v L' ⟨rfl, rfl⟩
     refine y (ev_pick1 rfl rfl) rfl ?_
     refine y (ev_assign rfl) rfl ?_
     refine ynil' (kthn (hK45 _ _ ?_))
     clear hK45
     refine ccond rfl (fun h267 => ?_) (fun h267 => ?_)
     ·(try simp only [sH] at h267)
      have hask : W.ask D fr m = (25, W, D) := by unfold WitM.ask; rw [if_neg (by simp [hin]), if_neg h2, if_pos ⟨by omega, by omega⟩]
      refine cseq ?_; intro K46 hK46
      refine creg ?_
      refine y (ev_assign rfl) rfl ?_
      refine ynil' (kthn (hK46 _ _ ?_))
      clear hK46
      refine cret (kbr (kthr ?_))
      first
        | (exfalso; omega; done)
        | (refine kretv Tryz.results48 rfl (L1 := [witP s c _, celP c q _, dev q _] ++ R) zge ?_
           rw [hask]; exact ⟨_, ⟨rfl, rfl⟩, rfl⟩)
     ·(try simp only [sH] at h267)
      refine cseq ?_; intro K47 hK47
      refine creg ?_
      have h3 : ¬ (W.f.holder ≠ fr ∧ 0 < W.left) := by omega
      refine y (ev_move rfl) rfl ?_
      refine y (ev_nil rfl) rfl ?_
      refine y (ev_fieldAddr 1 rfl Tryz.underlying97 rfl Tryz.sizeOf93) rfl ?_
      refine y (ev_fieldAddr 0 rfl Tryz.underlying93 rfl Tryz.sizeOf2) rfl ?_
      refine y (ev_load rfl Tryz.isAgg2 zin rfl) rfl ?_
      refine y (ev_eql rfl rfl) rfl ?_
      refine y (ev_assign rfl) rfl ?_
      refine ynil' (kthn (hK47 _ _ ?_))
      clear hK47
      refine ccond rfl (fun h276 => ?_) (fun h276 => ?_)
      ·(try simp only [sH] at h276)
       have hask : W.ask D fr m = (22, W, D) := by unfold WitM.ask; rw [if_neg (by simp [hin]), if_neg h2, if_neg h3, if_pos (by omega)]
       refine cseq ?_; intro K48 hK48
       refine creg ?_
       refine y (ev_assign rfl) rfl ?_
       refine ynil' (kthn (hK48 _ _ ?_))
       clear hK48
       refine cret (kbr (kthr ?_))
       first
         | (exfalso; omega; done)
         | (refine kretv Tryz.results48 rfl (L1 := [witP s c _, celP c q _, dev q _] ++ R) zge ?_
            rw [hask]; exact ⟨_, ⟨rfl, rfl⟩, rfl⟩)
      ·(try simp only [sH] at h276)
       have hfo := askF_ok hW hf (by omega)
       obtain ⟨r, hr0⟩ : ∃ r, W.put D { W.f with epoch := W.f.epoch + 1, holder := fr, change := 0 } = r := ⟨_, rfl⟩
       have hask : W.ask D fr m = (r.1, if r.1 = 0 then r.2.1.set else r.2.1, r.2.2) := by unfold WitM.ask; rw [if_neg (by simp [hin]), if_neg h2, if_neg h3, if_neg (by omega)]; dsimp only; rw [hr0]
       refine cskip' (kbn (kthn (hK3 _ _ ?_)))
       clear hK3
       refine cseq ?_; intro K49 hK49
       refine creg ?_
       refine y (ev_fieldAddr 0 rfl Tryz.underlying93 rfl Tryz.sizeOf2) rfl ?_
       refine y (ev_load rfl Tryz.isAgg2 zin rfl) rfl ?_
       refine y (ev_add rfl rfl) rfl ?_
       rw [wr (by omega) (by omega)]
       refine y (ev_move rfl) rfl ?_
       refine y (ev_fieldAddr 0 rfl Tryz.underlying93 rfl Tryz.sizeOf2) rfl ?_
       refine ya0 (ac_store rfl rfl (by first | rfl | exact svVal_one _ _ | assumption) Tryz.sizeOf2 zrp rfl rfl) ?_
       rintro v L' ⟨rfl, rfl⟩
       refine y (ev_fieldAddr 1 rfl Tryz.underlying93 rfl Tryz.sizeOf3) rfl ?_
       refine ya0 (ac_store rfl rfl (by first | rfl | exact svVal_one _ _ | assumption) Tryz.sizeOf3 zrp rfl rfl) ?_
       rintro v L' ⟨rfl, rfl⟩
       refine y (ev_fieldAddr 3 rfl Tryz.underlying93 rfl Tryz.sizeOf2) rfl ?_
       refine ya0 (ac_store rfl rfl (by first | rfl | exact svVal_one _ _ | assumption) Tryz.sizeOf2 zrp rfl rfl) ?_
       rintro v L' ⟨rfl, rfl⟩
       refine ynil' (kthn (hK49 _ _ ?_))
       clear hK49
       refine cseq ?_; intro K50 hK50
       refine creg ?_
       refine y (ev_move rfl) rfl ?_
       refine y (ev_loadAll rfl Tryz.isAgg93 Tryz.sizeOf93 zin (by first | rfl | assumption | (simp [*]; done) | (simp [*]; omega))) rfl ?_
       refine ycall (wPut (W := W) (f := { W.f with epoch := W.f.epoch + 1, holder := fr, change := 0 }) ?wok290 ?fok290) rfl Tryz.call79 ztk rfl ?_
       case wok290 => exact hW
       case fok290 => exact hfo
       rintro v L' ⟨rfl, rfl⟩
       rw [hr0]
       refine y (ev_assign rfl) rfl ?_
       refine ynil' (kthn (hK50 _ _ ?_))
       clear hK50
       refine cseq ?_; intro K51 hK51
       refine cseq ?_; intro K52 hK52
       refine creg ?_
       refine y (ev_move rfl) rfl ?_
       refine y (ev_eql rfl rfl) rfl ?_
       refine ynil' (kthn (hK52 _ _ ?_))
       clear hK52
       refine ccond rfl (fun h294 => ?_) (fun h294 => ?_)
       ·(try simp only [sH] at h294)
        rw [if_pos h294] at hask
        refine cdraw 7 [(0, true), (1, true), (2, true), (3, true), (4, true), (5, true), (6, false)] (R) Tryz.mixed (by kernel_rfl) zge ?_
        unfold witP
        refine hr rfl (ev_move rfl) rfl ?_
        refine hr rfl (ev_nil rfl) rfl ?_
        refine hr rfl (ev_fieldAddr 7 rfl Tryz.underlying97 rfl Tryz.sizeOf95) rfl ?_
        refine hr rfl (ev_move rfl) rfl ?_
        refine hr rfl (ev_nil rfl) rfl ?_
        refine hr rfl (ev_fieldAddr 8 rfl Tryz.underlying97 rfl Tryz.sizeOf2) rfl ?_
        refine ha rfl (ac_of_ev (ev_load rfl Tryz.isAgg2 zin rfl)) rfl ?_
        rintro v L' ⟨rfl, rfl⟩; refine ⟨zge, ?_⟩
        refine hnil ?_
        refine ycall (tSet (W := r.2.1)) rfl Tryz.call43 ztk rfl ?_
        rintro v L' ⟨rfl, rfl⟩
        refine hnoP' (kthn (hK51 _ _ ?_))
        clear hK51
        refine cseq ?_; intro K53 hK53
        refine creg ?_
        refine y (ev_move rfl) rfl ?_
        refine y (ev_assign rfl) rfl ?_
        refine ynil' (kthn (hK53 _ _ ?_))
        clear hK53
        refine cret ?_
        first
          | (exfalso; omega; done)
          | (refine kretv Tryz.results48 rfl (L1 := [witP s c _, celP c q _, dev q _] ++ R) zge ?_
             rw [hask]; exact ⟨_, ⟨rfl, rfl⟩, rfl⟩)
       ·(try simp only [sH] at h294)
        rw [if_neg h294] at hask
        refine cskip' (kthn (hK51 _ _ ?_))
        clear hK51
        refine cseq ?_; intro K54 hK54
        refine creg ?_
        refine y (ev_move rfl) rfl ?_
        refine y (ev_assign rfl) rfl ?_
        refine ynil' (kthn (hK54 _ _ ?_))
        clear hK54
        refine cret ?_
        first
          | (exfalso; omega; done)
          | (refine kretv Tryz.results48 rfl (L1 := [witP s c _, celP c q _, dev q _] ++ R) zge ?_
             rw [hask]; exact ⟨_, ⟨rfl, rfl⟩, rfl⟩)
    ·(try simp only [sH] at h260)
     refine yg0 rfl rfl rfl rfl ?_
     refine yg0 rfl rfl rfl rfl ?_
     refine yg0 rfl rfl rfl rfl ?_
     refine yg0 rfl rfl rfl rfl ?_
     refine y (ev_pick0 rfl rfl) rfl ?_
     refine y (ev_assign rfl) rfl ?_
     refine ynil' (kthn (hK45 _ _ ?_))
     clear hK45
     refine ccond0 rfl ?_
     refine cseq ?_; intro K55 hK55
     refine creg ?_
     have h3 : ¬ (W.f.holder ≠ fr ∧ 0 < W.left) := by omega
     refine y (ev_move rfl) rfl ?_
     refine y (ev_nil rfl) rfl ?_
     refine y (ev_fieldAddr 1 rfl Tryz.underlying97 rfl Tryz.sizeOf93) rfl ?_
     refine y (ev_fieldAddr 0 rfl Tryz.underlying93 rfl Tryz.sizeOf2) rfl ?_
     refine y (ev_load rfl Tryz.isAgg2 zin rfl) rfl ?_
     refine y (ev_eql rfl rfl) rfl ?_
     refine y (ev_assign rfl) rfl ?_
     refine ynil' (kthn (hK55 _ _ ?_))
     clear hK55
     refine ccond rfl (fun h316 => ?_) (fun h316 => ?_)
     ·(try simp only [sH] at h316)
      have hask : W.ask D fr m = (22, W, D) := by unfold WitM.ask; rw [if_neg (by simp [hin]), if_neg h2, if_neg h3, if_pos (by omega)]
      refine cseq ?_; intro K56 hK56
      refine creg ?_
      refine y (ev_assign rfl) rfl ?_
      refine ynil' (kthn (hK56 _ _ ?_))
      clear hK56
      refine cret (kbr (kthr ?_))
      first
        | (exfalso; omega; done)
        | (refine kretv Tryz.results48 rfl (L1 := [witP s c _, celP c q _, dev q _] ++ R) zge ?_
           rw [hask]; exact ⟨_, ⟨rfl, rfl⟩, rfl⟩)
     ·(try simp only [sH] at h316)
      have hfo := askF_ok hW hf (by omega)
      obtain ⟨r, hr0⟩ : ∃ r, W.put D { W.f with epoch := W.f.epoch + 1, holder := fr, change := 0 } = r := ⟨_, rfl⟩
      have hask : W.ask D fr m = (r.1, if r.1 = 0 then r.2.1.set else r.2.1, r.2.2) := by unfold WitM.ask; rw [if_neg (by simp [hin]), if_neg h2, if_neg h3, if_neg (by omega)]; dsimp only; rw [hr0]
      refine cskip' (kbn (kthn (hK3 _ _ ?_)))
      clear hK3
      refine cseq ?_; intro K57 hK57
      refine creg ?_
      refine y (ev_fieldAddr 0 rfl Tryz.underlying93 rfl Tryz.sizeOf2) rfl ?_
      refine y (ev_load rfl Tryz.isAgg2 zin rfl) rfl ?_
      refine y (ev_add rfl rfl) rfl ?_
      rw [wr (by omega) (by omega)]
      refine y (ev_move rfl) rfl ?_
      refine y (ev_fieldAddr 0 rfl Tryz.underlying93 rfl Tryz.sizeOf2) rfl ?_
      refine ya0 (ac_store rfl rfl (by first | rfl | exact svVal_one _ _ | assumption) Tryz.sizeOf2 zrp rfl rfl) ?_
      rintro v L' ⟨rfl, rfl⟩
      refine y (ev_fieldAddr 1 rfl Tryz.underlying93 rfl Tryz.sizeOf3) rfl ?_
      refine ya0 (ac_store rfl rfl (by first | rfl | exact svVal_one _ _ | assumption) Tryz.sizeOf3 zrp rfl rfl) ?_
      rintro v L' ⟨rfl, rfl⟩
      refine y (ev_fieldAddr 3 rfl Tryz.underlying93 rfl Tryz.sizeOf2) rfl ?_
      refine ya0 (ac_store rfl rfl (by first | rfl | exact svVal_one _ _ | assumption) Tryz.sizeOf2 zrp rfl rfl) ?_
      rintro v L' ⟨rfl, rfl⟩
      refine ynil' (kthn (hK57 _ _ ?_))
      clear hK57
      refine cseq ?_; intro K58 hK58
      refine creg ?_
      refine y (ev_move rfl) rfl ?_
      refine y (ev_loadAll rfl Tryz.isAgg93 Tryz.sizeOf93 zin (by first | rfl | assumption | (simp [*]; done) | (simp [*]; omega))) rfl ?_
      refine ycall (wPut (W := W) (f := { W.f with epoch := W.f.epoch + 1, holder := fr, change := 0 }) ?wok330 ?fok330) rfl Tryz.call79 ztk rfl ?_
      case wok330 => exact hW
      case fok330 => exact hfo
      rintro v L' ⟨rfl, rfl⟩
      rw [hr0]
      refine y (ev_assign rfl) rfl ?_
      refine ynil' (kthn (hK58 _ _ ?_))
      clear hK58
      refine cseq ?_; intro K59 hK59
      refine cseq ?_; intro K60 hK60
      refine creg ?_
      refine y (ev_move rfl) rfl ?_
      refine y (ev_eql rfl rfl) rfl ?_
      refine ynil' (kthn (hK60 _ _ ?_))
      clear hK60
      refine ccond rfl (fun h334 => ?_) (fun h334 => ?_)
      ·(try simp only [sH] at h334)
       rw [if_pos h334] at hask
       refine cdraw 7 [(0, true), (1, true), (2, true), (3, true), (4, true), (5, true), (6, false)] (R) Tryz.mixed (by kernel_rfl) zge ?_
       unfold witP
       refine hr rfl (ev_move rfl) rfl ?_
       refine hr rfl (ev_nil rfl) rfl ?_
       refine hr rfl (ev_fieldAddr 7 rfl Tryz.underlying97 rfl Tryz.sizeOf95) rfl ?_
       refine hr rfl (ev_move rfl) rfl ?_
       refine hr rfl (ev_nil rfl) rfl ?_
       refine hr rfl (ev_fieldAddr 8 rfl Tryz.underlying97 rfl Tryz.sizeOf2) rfl ?_
       refine ha rfl (ac_of_ev (ev_load rfl Tryz.isAgg2 zin rfl)) rfl ?_
       rintro v L' ⟨rfl, rfl⟩; refine ⟨zge, ?_⟩
       refine hnil ?_
       refine ycall (tSet (W := r.2.1)) rfl Tryz.call43 ztk rfl ?_
       rintro v L' ⟨rfl, rfl⟩
       refine hnoP' (kthn (hK59 _ _ ?_))
       clear hK59
       refine cseq ?_; intro K61 hK61
       refine creg ?_
       refine y (ev_move rfl) rfl ?_
       refine y (ev_assign rfl) rfl ?_
       refine ynil' (kthn (hK61 _ _ ?_))
       clear hK61
       refine cret ?_
       first
         | (exfalso; omega; done)
         | (refine kretv Tryz.results48 rfl (L1 := [witP s c _, celP c q _, dev q _] ++ R) zge ?_
            rw [hask]; exact ⟨_, ⟨rfl, rfl⟩, rfl⟩)
      ·(try simp only [sH] at h334)
       rw [if_neg h334] at hask
       refine cskip' (kthn (hK59 _ _ ?_))
       clear hK59
       refine cseq ?_; intro K62 hK62
       refine creg ?_
       refine y (ev_move rfl) rfl ?_
       refine y (ev_assign rfl) rfl ?_
       refine ynil' (kthn (hK62 _ _ ?_))
       clear hK62
       refine cret ?_
       first
         | (exfalso; omega; done)
         | (refine kretv Tryz.results48 rfl (L1 := [witP s c _, celP c q _, dev q _] ++ R) zge ?_
            rw [hask]; exact ⟨_, ⟨rfl, rfl⟩, rfl⟩)
theorem wChanged [Env] {R : List Seg} {s c : Nat} {q : Q3} {W : WitM} {D : Dev} {fr : Int} {m : MsgM} (hW : W.ok D) (hf : fr = 0 ∨ fr = 1) (hm : m.ok) :
    Con Tryz.prog 49 [ptr s, i64 fr, .agg m.cells.toArray] [witP s c W, celP c q W.c, dev q D] R (Is (i64 (W.changed D fr m).1) [witP s c (W.changed D fr m).2.1, celP c q (W.changed D fr m).2.1.c, dev q (W.changed D fr m).2.2]) := by
  have hchg := hW.f.change
  have hmn := hm.n
  refine con_enter Tryz.func49 Tryz.ntmps49 rfl rfl ?_
  unfold witP
  refine cseq ?_; intro K1 hK1
  refine creg ?_
  refine ya (ac_box (vs := m.cells) rfl rfl) rfl ?_
  rintro v L' ⟨b5, rfl, rfl⟩
  refine y (ev_assign rfl) rfl ?_
  refine ynil' (kthn (hK1 _ _ ?_))
  clear hK1
  refine cseq ?_; intro K2 hK2
  refine creg ?_
  refine y (ev_move rfl) rfl ?_
  refine y (ev_nil rfl) rfl ?_
  refine y (ev_fieldAddr 1 rfl Tryz.underlying97 rfl Tryz.sizeOf93) rfl ?_
  refine y (ev_loadN (u := W.f.cells) rfl Tryz.isAgg93 Tryz.sizeOf93 zin rfl rfl) rfl ?_
  refine ya (ac_alloc Tryz.zeroValue93 rfl) rfl ?_
  rintro v L' ⟨b7, rfl, rfl⟩
  refine ya0 (ac_storeN (vs' := W.f.cells) rfl rfl (fact_one _) Tryz.sizeOf93 zrp rfl (by decide) rfl) ?_
  rintro v L' ⟨rfl, rfl⟩
  refine ynil' (kthn (hK2 _ _ ?_))
  clear hK2
  refine cseq ?_; intro K3 hK3
  refine cblock ?_
  refine cseq ?_; intro K4 hK4
  refine cdraw 17 [(0, true), (1, true), (2, true), (3, true), (4, true), (5, true), (6, true), (7, true), (8, true), (9, true), (10, true), (11, true), (12, true), (13, true), (14, true), (15, true), (16, true)] (_) Tryz.mixed (by kernel_rfl) .refl ?_
  refine hr rfl (ev_move rfl) rfl ?_
  refine hr rfl (ev_nil rfl) rfl ?_
  refine hr rfl (ev_fieldAddr 1 rfl Tryz.underlying97 rfl Tryz.sizeOf93) rfl ?_
  refine hr rfl (ev_fieldAddr 1 rfl Tryz.underlying93 rfl Tryz.sizeOf3) rfl ?_
  refine hr rfl (ev_load rfl Tryz.isAgg3 zin rfl) rfl ?_
  refine hr rfl (ev_move rfl) rfl ?_
  refine hr rfl (ev_neq rfl rfl) rfl ?_
  refine hr rfl (ev_move rfl) rfl ?_
  refine hsplit 20 rfl (fun h363 => ?_) (fun h363 => ?_)
  ·(try simp only [sH] at h363)
   refine hr0 rfl rfl rfl rfl rfl ?_
   refine hr0 rfl rfl rfl rfl rfl ?_
   refine hr0 rfl rfl rfl rfl rfl ?_
   refine hr0 rfl rfl rfl rfl rfl ?_
   refine hr0 rfl rfl rfl rfl rfl ?_
   refine hr0 rfl rfl rfl rfl rfl ?_
   refine hr0 rfl rfl rfl rfl rfl ?_
   refine hr0 rfl rfl rfl rfl rfl ?_
   refine hr rfl (ev_pick1 rfl rfl) rfl ?_
   refine hnil ?_
   refine y (ev_assign rfl) rfl ?_
   refine hnoP' (kthn (hK4 _ _ ?_))
   clear hK4
   refine ccond1 rfl ?_
   refine cseq ?_; intro K5 hK5
   refine creg ?_
   have hch : W.changed D fr m = (20, W, D) := by unfold WitM.changed; rw [if_pos (by omega)]
   refine y (ev_assign rfl) rfl ?_
   refine ynil' (kthn (hK5 _ _ ?_))
   clear hK5
   refine cret (kbr (kthr ?_))
   first
     | (exfalso; omega; done)
     | (refine kretv Tryz.results49 rfl (L1 := [witP s c _, celP c q _, dev q _] ++ R) zge ?_
        rw [hch]; exact ⟨_, ⟨rfl, rfl⟩, rfl⟩)
  ·(try simp only [sH] at h363)
   refine hr1 rfl rfl rfl (ev_fieldAddr 1 rfl Tryz.underlying37 rfl Tryz.sizeOf2) rfl ?_
   refine hr1 rfl rfl rfl (ev_load rfl Tryz.isAgg2 zin rfl) rfl ?_
   refine hr1 rfl rfl rfl (ev_move rfl) rfl ?_
   refine hr1 rfl rfl rfl (ev_nil rfl) rfl ?_
   refine hr1 rfl rfl rfl (ev_fieldAddr 1 rfl Tryz.underlying97 rfl Tryz.sizeOf93) rfl ?_
   refine hr1 rfl rfl rfl (ev_fieldAddr 0 rfl Tryz.underlying93 rfl Tryz.sizeOf2) rfl ?_
   refine hr1 rfl rfl rfl (ev_load rfl Tryz.isAgg2 zin rfl) rfl ?_
   refine hr1 rfl rfl rfl (ev_neq rfl rfl) rfl ?_
   refine hr rfl (ev_pick0 rfl rfl) rfl ?_
   refine hnil ?_
   refine y (ev_assign rfl) rfl ?_
   refine hnoP' (kthn (hK4 _ _ ?_))
   clear hK4
   refine ccond rfl (fun h377 => ?_) (fun h377 => ?_)
   ·(try simp only [sH] at h377)
    refine cseq ?_; intro K6 hK6
    refine creg ?_
    have hch : W.changed D fr m = (20, W, D) := by unfold WitM.changed; rw [if_pos (by omega)]
    refine y (ev_assign rfl) rfl ?_
    refine ynil' (kthn (hK6 _ _ ?_))
    clear hK6
    refine cret (kbr (kthr ?_))
    first
      | (exfalso; omega; done)
      | (refine kretv Tryz.results49 rfl (L1 := [witP s c _, celP c q _, dev q _] ++ R) zge ?_
         rw [hch]; exact ⟨_, ⟨rfl, rfl⟩, rfl⟩)
   ·(try simp only [sH] at h377)
    refine cseq ?_; intro K7 hK7
    refine creg ?_
    have h1 : ¬ (W.f.holder ≠ fr ∨ m.epoch ≠ W.f.epoch) := by omega
    refine y (ev_fieldAddr 2 rfl Tryz.underlying37 rfl Tryz.sizeOf2) rfl ?_
    refine y (ev_load rfl Tryz.isAgg2 zin rfl) rfl ?_
    refine ycall (wWithin) rfl Tryz.call39 ztk rfl ?_
    rintro v L' ⟨rfl, rfl⟩
    refine y (ev_not rfl) rfl ?_
    refine y (ev_move rfl) rfl ?_
    refine ysplit 35 rfl (fun h384 => ?_) (fun h384 => ?_)
    ·(try simp only [sH] at h384)
     have hw3 : within3 m.seq 1 3 = false := h384
     refine yg0 rfl rfl rfl rfl ?_
     refine yg0 rfl rfl rfl rfl ?_
     refine yg0 rfl rfl rfl rfl ?_
     refine yg0 rfl rfl rfl rfl ?_
     refine yg0 rfl rfl rfl rfl ?_
     refine yg0 rfl rfl rfl rfl ?_
     refine y (ev_pick1 rfl rfl) rfl ?_
     refine y (ev_assign rfl) rfl ?_
     refine ynil' (kthn (hK7 _ _ ?_))
     clear hK7
     refine ccond1 rfl ?_
     refine cseq ?_; intro K8 hK8
     refine creg ?_
     have hch : W.changed D fr m = (1, W, D) := by
       unfold WitM.changed
       rw [if_neg h1, if_pos]
       first
       | exact .inl hw3
       | exact .inr (by by_cases h : inM m.seq fr = true <;> simp_all)
     refine y (ev_assign rfl) rfl ?_
     refine ynil' (kthn (hK8 _ _ ?_))
     clear hK8
     refine cret (kbr (kthr ?_))
     first
       | (exfalso; omega; done)
       | (refine kretv Tryz.results49 rfl (L1 := [witP s c _, celP c q _, dev q _] ++ R) zge ?_
          rw [hch]; exact ⟨_, ⟨rfl, rfl⟩, rfl⟩)
    ·(try simp only [sH] at h384)
     have hw3 : within3 m.seq 1 3 = true := h384
     have hsq : 1 ≤ m.seq ∧ m.seq ≤ 3 := by unfold within3 at hw3; simp only [Bool.and_eq_true, decide_eq_true_eq] at hw3; exact hw3
     have hbits := in_bits hsq hf
     refine yg1 rfl rfl ?_
     refine y (ev_fieldAddr 2 rfl Tryz.underlying37 rfl Tryz.sizeOf2) rfl ?_
     refine yg1 rfl rfl ?_
     refine y (ev_load rfl Tryz.isAgg2 zin rfl) rfl ?_
     refine yg1 rfl rfl ?_
     refine y (ev_move rfl) rfl ?_
     refine yg1 rfl rfl ?_
     refine y (ev_shr rfl rfl (by omega)) rfl ?_
     refine yg1 rfl rfl ?_
     refine y (ev_and rfl rfl) rfl ?_
     rw [hbits]
     refine yg1 rfl rfl ?_
     refine y (ev_eql rfl rfl) rfl ?_
     refine y (ev_pick0 rfl rfl) rfl ?_
     refine y (ev_assign rfl) rfl ?_
     refine ynil' (kthn (hK7 _ _ ?_))
     clear hK7
     refine ccond rfl (fun h396 => ?_) (fun h396 => ?_)
     ·(try simp only [sH] at h396)
      refine cseq ?_; intro K9 hK9
      refine creg ?_
      have hch : W.changed D fr m = (1, W, D) := by
        unfold WitM.changed
        rw [if_neg h1, if_pos]
        first
        | exact .inl hw3
        | exact .inr (by by_cases h : inM m.seq fr = true <;> simp_all)
      refine y (ev_assign rfl) rfl ?_
      refine ynil' (kthn (hK9 _ _ ?_))
      clear hK9
      refine cret (kbr (kthr ?_))
      first
        | (exfalso; omega; done)
        | (refine kretv Tryz.results49 rfl (L1 := [witP s c _, celP c q _, dev q _] ++ R) zge ?_
           rw [hch]; exact ⟨_, ⟨rfl, rfl⟩, rfl⟩)
     ·(try simp only [sH] at h396)
      refine cseq ?_; intro K10 hK10
      refine cdraw 8 [(0, true), (1, true), (2, true), (3, true), (4, true), (5, true), (6, true), (7, true)] (_) Tryz.mixed (by kernel_rfl) .refl ?_
      have h2 : ¬ (within3 m.seq 1 3 = false ∨ inM m.seq fr = false) := by rw [hw3]; by_cases h : inM m.seq fr = true <;> simp_all
      refine hr rfl (ev_fieldAddr 3 rfl Tryz.underlying37 rfl Tryz.sizeOf2) rfl ?_
      refine hr rfl (ev_load rfl Tryz.isAgg2 zin rfl) rfl ?_
      refine hr rfl (ev_move rfl) rfl ?_
      refine hr rfl (ev_nil rfl) rfl ?_
      refine hr rfl (ev_fieldAddr 1 rfl Tryz.underlying97 rfl Tryz.sizeOf93) rfl ?_
      refine hr rfl (ev_fieldAddr 3 rfl Tryz.underlying93 rfl Tryz.sizeOf2) rfl ?_
      refine hr rfl (ev_load rfl Tryz.isAgg2 zin rfl) rfl ?_
      refine hr rfl (ev_leq rfl rfl) rfl ?_
      refine hnil ?_
      refine y (ev_assign rfl) rfl ?_
      refine hnoP' (kthn (hK10 _ _ ?_))
      clear hK10
      refine ccond rfl (fun h407 => ?_) (fun h407 => ?_)
      ·(try simp only [sH] at h407)
       refine cseq ?_; intro K11 hK11
       refine creg ?_
       have hch : W.changed D fr m = (0, W, D) := by unfold WitM.changed; rw [if_neg h1, if_neg h2, if_pos (by omega)]
       refine y (ev_assign rfl) rfl ?_
       refine ynil' (kthn (hK11 _ _ ?_))
       clear hK11
       refine cret (kbr (kthr ?_))
       first
         | (exfalso; omega; done)
         | (refine kretv Tryz.results49 rfl (L1 := [witP s c _, celP c q _, dev q _] ++ R) zge ?_
            rw [hch]; exact ⟨_, ⟨rfl, rfl⟩, rfl⟩)
      ·(try simp only [sH] at h407)
       refine cskip' (kbn (kthn (hK3 _ _ ?_)))
       clear hK3
       refine cseq ?_; intro K12 hK12
       refine cdraw 7 [(0, true), (1, true), (2, true), (3, true), (4, true), (5, false), (6, true)] ([sc b5 m.cells 37] ++ R) Tryz.mixed (by kernel_rfl) zge ?_
       have hfo := changeF_ok hW hw3 (by omega) (by omega)
       have hch : W.changed D fr m = W.put D { W.f with mask := m.seq, change := m.n } := by unfold WitM.changed; rw [if_neg h1, if_neg h2, if_neg (by omega)]
       refine hr rfl (ev_fieldAddr 2 rfl Tryz.underlying37 rfl Tryz.sizeOf2) rfl ?_
       refine hr rfl (ev_load rfl Tryz.isAgg2 zin rfl) rfl ?_
       refine hr rfl (ev_fieldAddr 3 rfl Tryz.underlying37 rfl Tryz.sizeOf2) rfl ?_
       refine hr rfl (ev_load rfl Tryz.isAgg2 zin rfl) rfl ?_
       refine hr rfl (ev_fieldAddr 2 rfl Tryz.underlying93 rfl Tryz.sizeOf3) rfl ?_
       refine haN rfl (ac_store rfl rfl (by first | rfl | exact svVal_one _ _ | assumption) Tryz.sizeOf3 zrp rfl rfl) ?_
       rintro v L' ⟨rfl, rfl⟩; refine ⟨zge, ?_⟩
       refine hr rfl (ev_fieldAddr 3 rfl Tryz.underlying93 rfl Tryz.sizeOf2) rfl ?_
       refine hnil ?_
       refine ya0 (ac_store rfl rfl (by first | rfl | exact svVal_one _ _ | assumption) Tryz.sizeOf2 zrp rfl rfl) ?_
       rintro v L' ⟨rfl, rfl⟩
       refine hnoP' (kthn (hK12 _ _ ?_))
       clear hK12
       refine cseq ?_; intro K13 hK13
       refine creg ?_
       refine y (ev_move rfl) rfl ?_
       refine y (ev_loadAll rfl Tryz.isAgg93 Tryz.sizeOf93 zin (by first | rfl | assumption | (simp [*]; done) | (simp [*]; omega))) rfl ?_
       refine ycall (wPut (W := W) (f := { W.f with mask := m.seq, change := m.n }) ?wok419 ?fok419) rfl Tryz.call79 ztk rfl ?_
       case wok419 => exact hW
       case fok419 => exact hfo
       rintro v L' ⟨rfl, rfl⟩
       refine y (ev_assign rfl) rfl ?_
       refine ynil' (kthn (hK13 _ _ ?_))
       clear hK13
       refine cret ?_
       first
         | (exfalso; omega; done)
         | (refine kretv Tryz.results49 rfl (L1 := [witP s c _, celP c q _, dev q _] ++ R) zge ?_
            rw [hch]; exact ⟨_, ⟨rfl, rfl⟩, rfl⟩)
theorem wLost [Env] {R : List Seg} {s c : Nat} {q : Q3} {W : WitM} {D : Dev} {fr : Int} {m : MsgM} (hW : W.ok D) (hf : fr = 0 ∨ fr = 1) (hm : m.ok) :
    Con Tryz.prog 47 [ptr s, i64 fr, .agg m.cells.toArray] [witP s c W, celP c q W.c, dev q D] R (Is (i64 (W.lost D fr m).1) [witP s c (W.lost D fr m).2.1, celP c q (W.lost D fr m).2.1.c, dev q (W.lost D fr m).2.2]) := by
  have hmn := hm.n
  have hout := out_bits hW.f.mask hf
  refine con_enter Tryz.func47 Tryz.ntmps47 rfl rfl ?_
  unfold witP
  refine cseq ?_; intro K1 hK1
  refine creg ?_
  refine ya (ac_box (vs := m.cells) rfl rfl) rfl ?_
  rintro v L' ⟨b5, rfl, rfl⟩
  refine y (ev_assign rfl) rfl ?_
  refine ynil' (kthn (hK1 _ _ ?_))
  clear hK1
  refine cseq ?_; intro K2 hK2
  refine cseq ?_; intro K3 hK3
  refine cdraw 9 [(0, true), (1, true), (2, true), (3, true), (4, true), (5, true), (6, true), (7, true), (8, true)] (_) Tryz.mixed (by kernel_rfl) .refl ?_
  refine hr rfl (ev_fieldAddr 3 rfl Tryz.underlying37 rfl Tryz.sizeOf2) rfl ?_
  refine hr rfl (ev_load rfl Tryz.isAgg2 zin rfl) rfl ?_
  refine hr rfl (ev_move rfl) rfl ?_
  refine hr rfl (ev_move rfl) rfl ?_
  refine hr rfl (ev_nil rfl) rfl ?_
  refine hr rfl (ev_fieldAddr 1 rfl Tryz.underlying97 rfl Tryz.sizeOf93) rfl ?_
  refine hr rfl (ev_fieldAddr 4 rfl Tryz.underlying93 rfl Tryz.sizeOf91) rfl ?_
  refine hr rfl (ev_ixAddrA rfl rfl Tryz.underlying91 Tryz.sizeOf2 (by omega) (by omega)) rfl ?_
  refine hr rfl (ev_load rfl Tryz.isAgg2 zin (fact_get _ _ _ hf)) rfl ?_
  refine hnil ?_
  refine y (ev_leq rfl rfl) rfl ?_
  refine hnoP' (kthn (hK3 _ _ ?_))
  clear hK3
  refine ccond rfl (fun h433 => ?_) (fun h433 => ?_)
  ·(try simp only [sH] at h433)
   refine cseq ?_; intro K4 hK4
   refine creg ?_
   have hlo : W.lost D fr m = (0, W, D) := by unfold WitM.lost; rw [if_pos (by omega)]
   refine y (ev_assign rfl) rfl ?_
   refine ynil' (kthn (hK4 _ _ ?_))
   clear hK4
   refine cret (kthr ?_)
   first
     | (exfalso; omega; done)
     | (refine kretv Tryz.results47 rfl (L1 := [witP s c _, celP c q _, dev q _] ++ R) zge ?_
        rw [hlo]; exact ⟨_, ⟨rfl, rfl⟩, rfl⟩)
  ·(try simp only [sH] at h433)
   refine cskip' (kthn (hK2 _ _ ?_))
   clear hK2
   refine cseq ?_; intro K5 hK5
   refine creg ?_
   have hfo := loseF_ok hW hmn.1 hmn.2 (by omega)
   have hlo : W.lost D fr m = W.put D (W.f.lose fr m.n) := by unfold WitM.lost; rw [if_neg (by omega)]
   refine y (ev_move rfl) rfl ?_
   refine y (ev_nil rfl) rfl ?_
   refine y (ev_fieldAddr 1 rfl Tryz.underlying97 rfl Tryz.sizeOf93) rfl ?_
   refine y (ev_loadN (u := W.f.cells) rfl Tryz.isAgg93 Tryz.sizeOf93 zin rfl rfl) rfl ?_
   refine ya (ac_alloc Tryz.zeroValue93 rfl) rfl ?_
   rintro v L' ⟨b7, rfl, rfl⟩
   refine ya0 (ac_storeN (vs' := W.f.cells) rfl rfl (fact_one _) Tryz.sizeOf93 zrp rfl (by decide) rfl) ?_
   rintro v L' ⟨rfl, rfl⟩
   refine ynil' (kthn (hK5 _ _ ?_))
   clear hK5
   refine cseq ?_; intro K6 hK6
   refine creg ?_
   refine y (ev_move rfl) rfl ?_
   refine y (ev_fieldAddr 3 rfl Tryz.underlying37 rfl Tryz.sizeOf2) rfl ?_
   refine y (ev_load rfl Tryz.isAgg2 zin rfl) rfl ?_
   refine y (ev_fieldAddr 4 rfl Tryz.underlying93 rfl Tryz.sizeOf91) rfl ?_
   refine y (ev_ixAddrA rfl rfl Tryz.underlying91 Tryz.sizeOf2 (by omega) (by omega)) rfl ?_
   refine ya0 (ac_store (vs' := [i64 W.f.epoch, i64 W.f.holder, i64 W.f.mask, i64 W.f.change, i64 (if fr = 0 then m.n else W.f.l0), i64 (if fr = 0 then W.f.l1 else m.n)]) rfl rfl rfl Tryz.sizeOf2 zrp (by rcases hf with rfl | rfl <;> rfl) (fact_set hf)) ?_
   rintro v L' ⟨rfl, rfl⟩
   refine ynil' (kthn (hK6 _ _ ?_))
   clear hK6
   refine cseq ?_; intro K7 hK7
   refine creg ?_
   refine y (ev_fieldAddr 1 rfl Tryz.underlying93 rfl Tryz.sizeOf3) rfl ?_
   refine ya0 (ac_store rfl rfl (by first | rfl | exact svVal_one _ _ | assumption) Tryz.sizeOf3 zrp rfl rfl) ?_
   rintro v L' ⟨rfl, rfl⟩
   refine ynil' (kthn (hK7 _ _ ?_))
   clear hK7
   refine cseq ?_; intro K8 hK8
   have hJr9 : ∀ x : Int, (W.f.lose fr m.n = ⟨W.f.epoch, -1, x, W.f.change, if fr = 0 then m.n else W.f.l0, if fr = 0 then W.f.l1 else m.n⟩) → Sk 41 K8 ([(7, ptr b7), (0, ptr s)]) ([sc b7 [i64 W.f.epoch, i64 (-1), i64 x, i64 W.f.change, i64 (if fr = 0 then m.n else W.f.l0), i64 (if fr = 0 then W.f.l1 else m.n)] 93, witP s c W, celP c q W.c, dev q D] ++ R) := by
    rintro mk hIr9
    refine hK8 _ _ ?_
    have hlz := hIr9; rw [hlz] at hlo hfo
    refine cseq ?_; intro K9 hK9
    refine creg ?_
    refine y (ev_move rfl) rfl ?_
    refine y (ev_loadAll rfl Tryz.isAgg93 Tryz.sizeOf93 zin (by first | rfl | assumption | (simp [*]; done) | (simp [*]; omega))) rfl ?_
    refine ycall (wPut (W := W) (f := ⟨W.f.epoch, -1, mk, W.f.change, if fr = 0 then m.n else W.f.l0, if fr = 0 then W.f.l1 else m.n⟩) ?wok451 ?fok451) rfl Tryz.call79 ztk rfl ?_
    case wok451 => exact hW
    case fok451 => exact hfo
    rintro v L' ⟨rfl, rfl⟩
    refine y (ev_assign rfl) rfl ?_
    refine ynil' (kthn (hK9 _ _ ?_))
    clear hK9
    refine cret ?_
    first
      | (exfalso; omega; done)
      | (refine kretv Tryz.results47 rfl (L1 := [witP s c _, celP c q _, dev q _] ++ R) zge ?_
         rw [hlo]; exact ⟨_, ⟨rfl, rfl⟩, rfl⟩)
   clear hK8
   refine cseq ?_; intro K10 hK10
   refine cdraw 5 [(0, true), (1, true), (2, true), (3, true), (4, true)] ([sc b7 _ 93] ++ R) Tryz.mixed (by kernel_rfl) zge ?_
   refine hr rfl (ev_fieldAddr 2 rfl Tryz.underlying93 rfl Tryz.sizeOf3) rfl ?_
   refine hr rfl (ev_load rfl Tryz.isAgg3 zin rfl) rfl ?_
   refine hr rfl (ev_move rfl) rfl ?_
   refine hr rfl (ev_shl rfl rfl (by omega)) rfl ?_
   refine hr rfl (ev_andNot rfl rfl) rfl ?_
   rw [hout]
   refine hnil ?_
   refine y (ev_assign rfl) rfl ?_
   refine hnoP' (kthn (hK10 _ _ ?_))
   clear hK10
   refine cseq ?_; intro K11 hK11
   refine creg ?_
   refine y (ev_move rfl) rfl ?_
   refine y (ev_neq rfl rfl) rfl ?_
   refine ynil' (kthn (hK11 _ _ ?_))
   clear hK11
   refine ccond rfl (fun h461 => ?_) (fun h461 => ?_)
   ·(try simp only [sH] at h461)
    have hlz : W.f.lose fr m.n = ⟨W.f.epoch, -1, outM W.f.mask fr, W.f.change, if fr = 0 then m.n else W.f.l0, if fr = 0 then W.f.l1 else m.n⟩ := by unfold FactM.lose; rw [if_pos (by omega)]
    refine creg ?_
    refine y (ev_move rfl) rfl ?_
    refine y (ev_fieldAddr 2 rfl Tryz.underlying93 rfl Tryz.sizeOf3) rfl ?_
    refine ya0 (ac_store rfl rfl (by first | rfl | exact svVal_one _ _ | assumption) Tryz.sizeOf3 zrp rfl rfl) ?_
    rintro v L' ⟨rfl, rfl⟩
    refine ynil' (kthn ?_)
    first
      | exact ksub zsub zge (hJr9 (outM W.f.mask fr) hlz)
      | exact ksub zsub zge (hJr9 W.f.mask hlz)
   ·(try simp only [sH] at h461)
    have hlz : W.f.lose fr m.n = ⟨W.f.epoch, -1, W.f.mask, W.f.change, if fr = 0 then m.n else W.f.l0, if fr = 0 then W.f.l1 else m.n⟩ := by unfold FactM.lose; rw [if_neg (by omega)]
    refine cskip' (kthn ?_)
    first
      | exact ksub zsub zge (hJr9 (outM W.f.mask fr) hlz)
      | exact ksub zsub zge (hJr9 W.f.mask hlz)
end W
end Go.Proofs
