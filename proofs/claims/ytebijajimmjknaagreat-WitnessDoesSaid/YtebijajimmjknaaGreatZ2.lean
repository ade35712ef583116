/- A part of the proof: contracts and plain lemmas, each without conditions beyond those that it names. -/
import Derived.Test.YtebijajimmjknaaGreatZ1
set_option linter.unusedVariables false
set_option linter.unusedSimpArgs false
set_option linter.constructorNameAsVariable false
namespace Go.Proofs
open Go Go.Sl
namespace W
set_option linter.unusedVariables false
theorem ls_rd [Env] {R : List Seg} {b : Nat} {f : FactM} (h : In R (so b (.cells ([i64 f.l0, i64 f.l1] : List Value).toArray 2 (0, 0)))) : RdV R (lsV b) 2 [i64 f.l0, i64 f.l1] := rdV_in h rfl rfl
theorem xAsk [Env] {R : List Seg} {s c b p la : Nat} {W : WitM} {E : RDev} {fr : Int} {m : MsgM} (hW : RWok W E) (hf : fr = 0 ∨ fr = 1) :
    Con Tryz.prog 51 [ptr s, i64 fr, .agg m.cells.toArray] [rwS s c (lsV b) W, rwL b W.f, rcelP c p W.c, rdev p la E] R (Is (i64 (W.askR E fr m).1) [rwS s c (lsV b) (W.askR E fr m).2.1, rwL b (W.askR E fr m).2.1.f, rcelP c p (W.askR E fr m).2.1.c, rdev p la (W.askR E fr m).2.2]) := by
  have hmask := hW.f.mask
  have hep := hW.f.epoch
  have hin := rInB_in hmask hf
  have hls := ask_l W E fr m
  refine con_enter Tryz.func51 Tryz.ntmps51 rfl rfl ?_
  unfold rwS rwL
  refine cseq ?_; intro K1 hK1
  refine creg ?_
  refine ya (ac_box (vs := m.cells) rfl rfl) rfl ?_
  rintro v L' ⟨b5, rfl, rfl⟩
  refine y (ev_assign rfl) rfl ?_
  refine ynil' (kthn (hK1 _ _ ?_))
  clear hK1
  refine cseq ?_; intro K2 hK2
  refine cseq ?_; intro K3 hK3
  refine creg ?_
  refine y (ev_move rfl) rfl ?_
  refine y (ev_nil rfl) rfl ?_
  refine y (ev_fieldAddr 3 rfl Tryz.underlying55 rfl Tryz.sizeOf3) rfl ?_
  refine y (ev_load rfl Tryz.isAgg3 zin rfl) rfl ?_
  refine y (ev_move rfl) rfl ?_
  refine ycall (x14In) rfl Tryz.call82 ztk rfl ?_
  rintro v L' ⟨rfl, rfl⟩
  rw [hin]
  refine y (ev_not rfl) rfl ?_
  refine ynil' (kthn (hK3 _ _ ?_))
  clear hK3
  refine ccond rfl (fun h10 => ?_) (fun h10 => ?_)
  ·(try simp only [sH] at h10)
   have hi : inM W.f.mask fr = false := by by_cases h : inM W.f.mask fr = true <;> simp_all
   have hask : W.askR E fr m = (20, W, E) := by unfold WitM.askR; rw [if_pos hi]
   refine cseq ?_; intro K4 hK4
   refine creg ?_
   refine y (ev_assign rfl) rfl ?_
   refine ynil' (kthn (hK4 _ _ ?_))
   clear hK4
   refine cret (kthr ?_)
   first
     | (exfalso; omega; done)
     | (refine kretv Tryz.results51 rfl (L1 := [sc s _ 55, sc b _ 2, rcelP c p _, rdev p la _] ++ R) zge ?_
        rw [hls.1, hls.2, hask]; exact ⟨_, ⟨rfl, rfl⟩, rfl⟩)
  ·(try simp only [sH] at h10)
   have hi : inM W.f.mask fr = true := by by_cases h : inM W.f.mask fr = true <;> simp_all
   refine cskip' (kthn (hK2 _ _ ?_))
   clear hK2
   refine cseq ?_; intro K5 hK5
   refine cseq ?_; intro K6 hK6
   refine cdraw 19 [(0, true), (1, true), (2, true), (3, true), (4, true), (5, true), (6, true), (7, true), (8, true), (9, true), (10, true), (11, true), (12, true), (13, true), (14, true), (15, true), (16, true), (17, true), (18, true)] (_) Tryz.mixed (by kernel_rfl) .refl ?_
   refine hr rfl (ev_move rfl) rfl ?_
   refine hr rfl (ev_nil rfl) rfl ?_
   refine hr rfl (ev_fieldAddr 2 rfl Tryz.underlying55 rfl Tryz.sizeOf3) rfl ?_
   refine hr rfl (ev_load rfl Tryz.isAgg3 zin rfl) rfl ?_
   refine hr rfl (ev_move rfl) rfl ?_
   refine hr rfl (ev_eql rfl rfl) rfl ?_
   refine hr rfl (ev_move rfl) rfl ?_
   refine hsplit 21 rfl (fun h19 => ?_) (fun h19 => ?_)
   ·(try simp only [sH] at h19)
    refine hr1 rfl rfl rfl (ev_fieldAddr 2 rfl Tryz.underlying37 rfl Tryz.sizeOf2) rfl ?_
    refine hr1 rfl rfl rfl (ev_load rfl Tryz.isAgg2 zin rfl) rfl ?_
    refine hr1 rfl rfl rfl (ev_eql rfl rfl) rfl ?_
    refine hr rfl (ev_pick1 rfl rfl) rfl ?_
    refine hr rfl (ev_move rfl) rfl ?_
    refine hsplit 26 rfl (fun h25 => ?_) (fun h25 => ?_)
    ·(try simp only [sH] at h25)
     refine hr1 rfl rfl rfl (ev_fieldAddr 1 rfl Tryz.underlying37 rfl Tryz.sizeOf2) rfl ?_
     refine hr1 rfl rfl rfl (ev_load rfl Tryz.isAgg2 zin rfl) rfl ?_
     refine hr1 rfl rfl rfl (ev_move rfl) rfl ?_
     refine hr1 rfl rfl rfl (ev_nil rfl) rfl ?_
     refine hr1 rfl rfl rfl (ev_fieldAddr 1 rfl Tryz.underlying55 rfl Tryz.sizeOf2) rfl ?_
     refine hr1 rfl rfl rfl (ev_load rfl Tryz.isAgg2 zin rfl) rfl ?_
     refine hr1 rfl rfl rfl (ev_eql rfl rfl) rfl ?_
     refine hnil ?_
     refine y (ev_pick1 rfl rfl) rfl ?_
     refine hnoP' (kthn (hK6 _ _ ?_))
     clear hK6
     refine ccond rfl (fun h34 => ?_) (fun h34 => ?_)
     ·(try simp only [sH] at h34)
      refine cseq ?_; intro K7 hK7
      refine creg ?_
      have hask : W.askR E fr m = (0, { W with left := W.wait }, E) := by unfold WitM.askR; rw [if_neg (by simp [hi]), if_pos ⟨by omega, by omega, by omega⟩]
      refine y (ev_move rfl) rfl ?_
      refine y (ev_move rfl) rfl ?_
      refine y (ev_nil rfl) rfl ?_
      refine y (ev_fieldAddr 7 rfl Tryz.underlying55 rfl Tryz.sizeOf2) rfl ?_
      refine y (ev_load rfl Tryz.isAgg2 zin rfl) rfl ?_
      refine y (ev_nil rfl) rfl ?_
      refine y (ev_fieldAddr 6 rfl Tryz.underlying55 rfl Tryz.sizeOf2) rfl ?_
      refine ya0 (ac_store rfl rfl (by first | rfl | exact svVal_one _ _ | assumption) Tryz.sizeOf2 zrp rfl rfl) ?_
      rintro v L' ⟨rfl, rfl⟩
      refine ynil' (kthn (hK7 _ _ ?_))
      clear hK7
      refine cseq ?_; intro K8 hK8
      refine creg ?_
      refine y (ev_assign rfl) rfl ?_
      refine ynil' (kthn (hK8 _ _ ?_))
      clear hK8
      refine cret (kthr ?_)
      first
        | (exfalso; omega; done)
        | (refine kretv Tryz.results51 rfl (L1 := [sc s _ 55, sc b _ 2, rcelP c p _, rdev p la _] ++ R) zge ?_
           rw [hls.1, hls.2, hask]; exact ⟨_, ⟨rfl, rfl⟩, rfl⟩)
     ·(try simp only [sH] at h34)
      refine cskip' (kthn (hK5 _ _ ?_))
      clear hK5
      refine cseq ?_; intro K9 hK9
      refine cseq ?_; intro K10 hK10
      refine creg ?_
      have h2 : ¬ (W.f.holder = fr ∧ m.seq = 0 ∧ m.epoch = W.f.epoch) := by omega
      refine y (ev_move rfl) rfl ?_
      refine y (ev_nil rfl) rfl ?_
      refine y (ev_fieldAddr 2 rfl Tryz.underlying55 rfl Tryz.sizeOf3) rfl ?_
      refine y (ev_load rfl Tryz.isAgg3 zin rfl) rfl ?_
      refine y (ev_move rfl) rfl ?_
      refine y (ev_neq rfl rfl) rfl ?_
      refine y (ev_move rfl) rfl ?_
      refine ysplit 48 rfl (fun h51 => ?_) (fun h51 => ?_)
      ·(try simp only [sH] at h51)
       refine yg1 rfl rfl ?_
       refine y (ev_move rfl) rfl ?_
       refine yg1 rfl rfl ?_
       refine y (ev_nil rfl) rfl ?_
       refine yg1 rfl rfl ?_
       refine y (ev_fieldAddr 6 rfl Tryz.underlying55 rfl Tryz.sizeOf2) rfl ?_
       refine yg1 rfl rfl ?_
       refine y (ev_load rfl Tryz.isAgg2 zin rfl) rfl ?_
       refine yg1 rfl rfl ?_
       refine y (ev_gtr rfl rfl) rfl ?_
       refine y (ev_pick1 rfl rfl) rfl ?_
       refine ynil' (kthn (hK10 _ _ ?_))
       clear hK10
       refine ccond rfl (fun h58 => ?_) (fun h58 => ?_)
       ·(try simp only [sH] at h58)
        refine cseq ?_; intro K11 hK11
        refine creg ?_
        have hask : W.askR E fr m = (25, W, E) := by unfold WitM.askR; rw [if_neg (by simp [hi]), if_neg h2, if_pos ⟨by omega, by omega⟩]
        refine y (ev_assign rfl) rfl ?_
        refine ynil' (kthn (hK11 _ _ ?_))
        clear hK11
        refine cret (kthr ?_)
        first
          | (exfalso; omega; done)
          | (refine kretv Tryz.results51 rfl (L1 := [sc s _ 55, sc b _ 2, rcelP c p _, rdev p la _] ++ R) zge ?_
             rw [hls.1, hls.2, hask]; exact ⟨_, ⟨rfl, rfl⟩, rfl⟩)
       ·(try simp only [sH] at h58)
        refine cskip' (kthn (hK9 _ _ ?_))
        clear hK9
        refine cseq ?_; intro K12 hK12
        refine cseq ?_; intro K13 hK13
        refine creg ?_
        have h3 : ¬ (W.f.holder ≠ fr ∧ 0 < W.left) := by omega
        refine y (ev_move rfl) rfl ?_
        refine y (ev_nil rfl) rfl ?_
        refine y (ev_fieldAddr 1 rfl Tryz.underlying55 rfl Tryz.sizeOf2) rfl ?_
        refine y (ev_load rfl Tryz.isAgg2 zin rfl) rfl ?_
        refine y (ev_eql rfl rfl) rfl ?_
        refine ynil' (kthn (hK13 _ _ ?_))
        clear hK13
        refine ccond rfl (fun h65 => ?_) (fun h65 => ?_)
        ·(try simp only [sH] at h65)
         have hask : W.askR E fr m = (22, W, E) := by unfold WitM.askR; rw [if_neg (by simp [hi]), if_neg h2, if_neg h3, if_pos (by omega)]
         refine cseq ?_; intro K14 hK14
         refine creg ?_
         refine y (ev_assign rfl) rfl ?_
         refine ynil' (kthn (hK14 _ _ ?_))
         clear hK14
         refine cret (kthr ?_)
         first
           | (exfalso; omega; done)
           | (refine kretv Tryz.results51 rfl (L1 := [sc s _ 55, sc b _ 2, rcelP c p _, rdev p la _] ++ R) zge ?_
              rw [hls.1, hls.2, hask]; exact ⟨_, ⟨rfl, rfl⟩, rfl⟩)
        ·(try simp only [sH] at h65)
         have hfo : ({ W.f with epoch := W.f.epoch + 1, holder := fr, change := 0 } : FactM).ok := ⟨by dsimp only; omega, by dsimp only; omega, hW.f.mask, by dsimp only; omega, hW.f.l0, hW.f.l1⟩
         obtain ⟨r, hr0⟩ : ∃ r, W.putR E { W.f with epoch := W.f.epoch + 1, holder := fr, change := 0 } = r := ⟨_, rfl⟩
         have hask : W.askR E fr m = (r.1, if r.1 = 0 then { r.2.1 with left := r.2.1.wait } else r.2.1, r.2.2) := by unfold WitM.askR; rw [if_neg (by simp [hi]), if_neg h2, if_neg h3, if_neg (by omega)]; dsimp only; rw [hr0]
         refine cskip' (kthn (hK12 _ _ ?_))
         clear hK12
         refine cseq ?_; intro K15 hK15
         refine cdraw 15 [(0, true), (1, true), (2, true), (3, true), (4, true), (5, true), (6, true), (7, true), (8, true), (9, true), (10, true), (11, true), (12, true), (13, true), (14, true)] ([sc s _ 55] ++ R) Tryz.mixed (by kernel_rfl) zge ?_
         refine hr rfl (ev_move rfl) rfl ?_
         refine hr rfl (ev_move rfl) rfl ?_
         refine hr rfl (ev_nil rfl) rfl ?_
         refine hr rfl (ev_fieldAddr 1 rfl Tryz.underlying55 rfl Tryz.sizeOf2) rfl ?_
         refine hr rfl (ev_load rfl Tryz.isAgg2 zin rfl) rfl ?_
         refine hr rfl (ev_add rfl rfl) rfl ?_
         rw [wr (by omega) (by omega)]
         refine hr rfl (ev_move rfl) rfl ?_
         refine hr rfl (ev_move rfl) rfl ?_
         refine hr rfl (ev_nil rfl) rfl ?_
         refine hr rfl (ev_fieldAddr 3 rfl Tryz.underlying55 rfl Tryz.sizeOf3) rfl ?_
         refine hr rfl (ev_load rfl Tryz.isAgg3 zin rfl) rfl ?_
         refine hr rfl (ev_move rfl) rfl ?_
         refine hr rfl (ev_nil rfl) rfl ?_
         refine hr rfl (ev_fieldAddr 5 rfl Tryz.underlying55 rfl Tryz.sizeOf53) rfl ?_
         refine hr rfl (ev_load rfl Tryz.isAgg53 zin rfl) rfl ?_
         refine hnil ?_
         refine ycall (xPut (W := W) (f := { W.f with epoch := W.f.epoch + 1, holder := fr, change := 0 }) ?wok82 ?fok82 ?lv82) rfl Tryz.call83 ztk rfl ?_
         case wok82 => exact hW
         case fok82 => exact hfo
         case lv82 => exact ls_rd zin
         rintro v L' ⟨rfl, rfl⟩
         rw [hr0, show (if r.1 = 0 then lsV b else lsV b) = lsV b by split <;> rfl]
         refine y (ev_assign rfl) rfl ?_
         refine hnoP' (kthn (hK15 _ _ ?_))
         clear hK15
         refine cseq ?_; intro K16 hK16
         refine cseq ?_; intro K17 hK17
         refine creg ?_
         refine y (ev_move rfl) rfl ?_
         refine y (ev_eql rfl rfl) rfl ?_
         refine ynil' (kthn (hK17 _ _ ?_))
         clear hK17
         refine ccond rfl (fun h86 => ?_) (fun h86 => ?_)
         ·(try simp only [sH] at h86)
          rw [if_pos h86] at hask
          refine creg ?_
          unfold rwS
          refine y (ev_move rfl) rfl ?_
          refine y (ev_move rfl) rfl ?_
          refine y (ev_nil rfl) rfl ?_
          refine y (ev_fieldAddr 7 rfl Tryz.underlying55 rfl Tryz.sizeOf2) rfl ?_
          refine y (ev_load rfl Tryz.isAgg2 zin rfl) rfl ?_
          refine y (ev_nil rfl) rfl ?_
          refine y (ev_fieldAddr 6 rfl Tryz.underlying55 rfl Tryz.sizeOf2) rfl ?_
          refine ya0 (ac_store rfl rfl (by first | rfl | exact svVal_one _ _ | assumption) Tryz.sizeOf2 zrp rfl rfl) ?_
          rintro v L' ⟨rfl, rfl⟩
          refine ynil' (kthn (hK16 _ _ ?_))
          clear hK16
          refine cseq ?_; intro K18 hK18
          refine creg ?_
          refine y (ev_move rfl) rfl ?_
          refine y (ev_assign rfl) rfl ?_
          refine ynil' (kthn (hK18 _ _ ?_))
          clear hK18
          refine cret ?_
          first
            | (exfalso; omega; done)
            | (refine kretv Tryz.results51 rfl (L1 := [sc s _ 55, sc b _ 2, rcelP c p _, rdev p la _] ++ R) zge ?_
               rw [hls.1, hls.2, hask]; exact ⟨_, ⟨rfl, rfl⟩, rfl⟩)
         ·(try simp only [sH] at h86)
          rw [if_neg h86] at hask
          refine cskip' (kthn (hK16 _ _ ?_))
          clear hK16
          refine cseq ?_; intro K19 hK19
          refine creg ?_
          refine y (ev_move rfl) rfl ?_
          refine y (ev_assign rfl) rfl ?_
          refine ynil' (kthn (hK19 _ _ ?_))
          clear hK19
          refine cret ?_
          first
            | (exfalso; omega; done)
            | (refine kretv Tryz.results51 rfl (L1 := [sc s _ 55, sc b _ 2, rcelP c p _, rdev p la _] ++ R) zge ?_
               rw [hls.1, hls.2, hask]; exact ⟨_, ⟨rfl, rfl⟩, rfl⟩)
      ·(try simp only [sH] at h51)
       refine yg0 rfl rfl rfl rfl ?_
       refine yg0 rfl rfl rfl rfl ?_
       refine yg0 rfl rfl rfl rfl ?_
       refine yg0 rfl rfl rfl rfl ?_
       refine yg0 rfl rfl rfl rfl ?_
       refine y (ev_pick0 rfl rfl) rfl ?_
       refine ynil' (kthn (hK10 _ _ ?_))
       clear hK10
       refine ccond0 rfl ?_
       refine cskip' (kthn (hK9 _ _ ?_))
       clear hK9
       refine cseq ?_; intro K20 hK20
       refine cseq ?_; intro K21 hK21
       refine creg ?_
       have h3 : ¬ (W.f.holder ≠ fr ∧ 0 < W.left) := by omega
       refine y (ev_move rfl) rfl ?_
       refine y (ev_nil rfl) rfl ?_
       refine y (ev_fieldAddr 1 rfl Tryz.underlying55 rfl Tryz.sizeOf2) rfl ?_
       refine y (ev_load rfl Tryz.isAgg2 zin rfl) rfl ?_
       refine y (ev_eql rfl rfl) rfl ?_
       refine ynil' (kthn (hK21 _ _ ?_))
       clear hK21
       refine ccond rfl (fun h105 => ?_) (fun h105 => ?_)
       ·(try simp only [sH] at h105)
        have hask : W.askR E fr m = (22, W, E) := by unfold WitM.askR; rw [if_neg (by simp [hi]), if_neg h2, if_neg h3, if_pos (by omega)]
        refine cseq ?_; intro K22 hK22
        refine creg ?_
        refine y (ev_assign rfl) rfl ?_
        refine ynil' (kthn (hK22 _ _ ?_))
        clear hK22
        refine cret (kthr ?_)
        first
          | (exfalso; omega; done)
          | (refine kretv Tryz.results51 rfl (L1 := [sc s _ 55, sc b _ 2, rcelP c p _, rdev p la _] ++ R) zge ?_
             rw [hls.1, hls.2, hask]; exact ⟨_, ⟨rfl, rfl⟩, rfl⟩)
       ·(try simp only [sH] at h105)
        have hfo : ({ W.f with epoch := W.f.epoch + 1, holder := fr, change := 0 } : FactM).ok := ⟨by dsimp only; omega, by dsimp only; omega, hW.f.mask, by dsimp only; omega, hW.f.l0, hW.f.l1⟩
        obtain ⟨r, hr0⟩ : ∃ r, W.putR E { W.f with epoch := W.f.epoch + 1, holder := fr, change := 0 } = r := ⟨_, rfl⟩
        have hask : W.askR E fr m = (r.1, if r.1 = 0 then { r.2.1 with left := r.2.1.wait } else r.2.1, r.2.2) := by unfold WitM.askR; rw [if_neg (by simp [hi]), if_neg h2, if_neg h3, if_neg (by omega)]; dsimp only; rw [hr0]
        refine cskip' (kthn (hK20 _ _ ?_))
        clear hK20
        refine cseq ?_; intro K23 hK23
        refine cdraw 15 [(0, true), (1, true), (2, true), (3, true), (4, true), (5, true), (6, true), (7, true), (8, true), (9, true), (10, true), (11, true), (12, true), (13, true), (14, true)] ([sc s _ 55] ++ R) Tryz.mixed (by kernel_rfl) zge ?_
        refine hr rfl (ev_move rfl) rfl ?_
        refine hr rfl (ev_move rfl) rfl ?_
        refine hr rfl (ev_nil rfl) rfl ?_
        refine hr rfl (ev_fieldAddr 1 rfl Tryz.underlying55 rfl Tryz.sizeOf2) rfl ?_
        refine hr rfl (ev_load rfl Tryz.isAgg2 zin rfl) rfl ?_
        refine hr rfl (ev_add rfl rfl) rfl ?_
        rw [wr (by omega) (by omega)]
        refine hr rfl (ev_move rfl) rfl ?_
        refine hr rfl (ev_move rfl) rfl ?_
        refine hr rfl (ev_nil rfl) rfl ?_
        refine hr rfl (ev_fieldAddr 3 rfl Tryz.underlying55 rfl Tryz.sizeOf3) rfl ?_
        refine hr rfl (ev_load rfl Tryz.isAgg3 zin rfl) rfl ?_
        refine hr rfl (ev_move rfl) rfl ?_
        refine hr rfl (ev_nil rfl) rfl ?_
        refine hr rfl (ev_fieldAddr 5 rfl Tryz.underlying55 rfl Tryz.sizeOf53) rfl ?_
        refine hr rfl (ev_load rfl Tryz.isAgg53 zin rfl) rfl ?_
        refine hnil ?_
        refine ycall (xPut (W := W) (f := { W.f with epoch := W.f.epoch + 1, holder := fr, change := 0 }) ?wok122 ?fok122 ?lv122) rfl Tryz.call83 ztk rfl ?_
        case wok122 => exact hW
        case fok122 => exact hfo
        case lv122 => exact ls_rd zin
        rintro v L' ⟨rfl, rfl⟩
        rw [hr0, show (if r.1 = 0 then lsV b else lsV b) = lsV b by split <;> rfl]
        refine y (ev_assign rfl) rfl ?_
        refine hnoP' (kthn (hK23 _ _ ?_))
        clear hK23
        refine cseq ?_; intro K24 hK24
        refine cseq ?_; intro K25 hK25
        refine creg ?_
        refine y (ev_move rfl) rfl ?_
        refine y (ev_eql rfl rfl) rfl ?_
        refine ynil' (kthn (hK25 _ _ ?_))
        clear hK25
        refine ccond rfl (fun h126 => ?_) (fun h126 => ?_)
        ·(try simp only [sH] at h126)
         rw [if_pos h126] at hask
         refine creg ?_
         unfold rwS
         refine y (ev_move rfl) rfl ?_
         refine y (ev_move rfl) rfl ?_
         refine y (ev_nil rfl) rfl ?_
         refine y (ev_fieldAddr 7 rfl Tryz.underlying55 rfl Tryz.sizeOf2) rfl ?_
         refine y (ev_load rfl Tryz.isAgg2 zin rfl) rfl ?_
         refine y (ev_nil rfl) rfl ?_
         refine y (ev_fieldAddr 6 rfl Tryz.underlying55 rfl Tryz.sizeOf2) rfl ?_
         refine ya0 (ac_store rfl rfl (by first | rfl | exact svVal_one _ _ | assumption) Tryz.sizeOf2 zrp rfl rfl) ?_
         rintro v L' ⟨rfl, rfl⟩
         refine ynil' (kthn (hK24 _ _ ?_))
         clear hK24
         refine cseq ?_; intro K26 hK26
         refine creg ?_
         refine y (ev_move rfl) rfl ?_
         refine y (ev_assign rfl) rfl ?_
         refine ynil' (kthn (hK26 _ _ ?_))
         clear hK26
         refine cret ?_
         first
           | (exfalso; omega; done)
           | (refine kretv Tryz.results51 rfl (L1 := [sc s _ 55, sc b _ 2, rcelP c p _, rdev p la _] ++ R) zge ?_
              rw [hls.1, hls.2, hask]; exact ⟨_, ⟨rfl, rfl⟩, rfl⟩)
        ·(try simp only [sH] at h126)
         rw [if_neg h126] at hask
         refine cskip' (kthn (hK24 _ _ ?_))
         clear hK24
         refine cseq ?_; intro K27 hK27
         refine creg ?_
         refine y (ev_move rfl) rfl ?_
         refine y (ev_assign rfl) rfl ?_
         refine ynil' (kthn (hK27 _ _ ?_))
         clear hK27
         refine cret ?_
         first
           | (exfalso; omega; done)
           | (refine kretv Tryz.results51 rfl (L1 := [sc s _ 55, sc b _ 2, rcelP c p _, rdev p la _] ++ R) zge ?_
              rw [hls.1, hls.2, hask]; exact ⟨_, ⟨rfl, rfl⟩, rfl⟩)
    ·(try simp only [sH] at h25)
     refine hr0 rfl rfl rfl rfl rfl ?_
     refine hr0 rfl rfl rfl rfl rfl ?_
     refine hr0 rfl rfl rfl rfl rfl ?_
     refine hr0 rfl rfl rfl rfl rfl ?_
     refine hr0 rfl rfl rfl rfl rfl ?_
     refine hr0 rfl rfl rfl rfl rfl ?_
     refine hr0 rfl rfl rfl rfl rfl ?_
     refine hnil ?_
     refine y (ev_pick0 rfl rfl) rfl ?_
     refine hnoP' (kthn (hK6 _ _ ?_))
     clear hK6
     refine ccond0 rfl ?_
     refine cskip' (kthn (hK5 _ _ ?_))
     clear hK5
     refine cseq ?_; intro K28 hK28
     refine cseq ?_; intro K29 hK29
     refine creg ?_
     have h2 : ¬ (W.f.holder = fr ∧ m.seq = 0 ∧ m.epoch = W.f.epoch) := by omega
     refine y (ev_move rfl) rfl ?_
     refine y (ev_nil rfl) rfl ?_
     refine y (ev_fieldAddr 2 rfl Tryz.underlying55 rfl Tryz.sizeOf3) rfl ?_
     refine y (ev_load rfl Tryz.isAgg3 zin rfl) rfl ?_
     refine y (ev_move rfl) rfl ?_
     refine y (ev_neq rfl rfl) rfl ?_
     refine y (ev_move rfl) rfl ?_
     refine ysplit 48 rfl (fun h147 => ?_) (fun h147 => ?_)
     ·(try simp only [sH] at h147)
      refine yg1 rfl rfl ?_
      refine y (ev_move rfl) rfl ?_
      refine yg1 rfl rfl ?_
      refine y (ev_nil rfl) rfl ?_
      refine yg1 rfl rfl ?_
      refine y (ev_fieldAddr 6 rfl Tryz.underlying55 rfl Tryz.sizeOf2) rfl ?_
      refine yg1 rfl rfl ?_
      refine y (ev_load rfl Tryz.isAgg2 zin rfl) rfl ?_
      refine yg1 rfl rfl ?_
      refine y (ev_gtr rfl rfl) rfl ?_
      refine y (ev_pick1 rfl rfl) rfl ?_
      refine ynil' (kthn (hK29 _ _ ?_))
      clear hK29
      refine ccond rfl (fun h154 => ?_) (fun h154 => ?_)
      ·(try simp only [sH] at h154)
       refine cseq ?_; intro K30 hK30
       refine creg ?_
       have hask : W.askR E fr m = (25, W, E) := by unfold WitM.askR; rw [if_neg (by simp [hi]), if_neg h2, if_pos ⟨by omega, by omega⟩]
       refine y (ev_assign rfl) rfl ?_
       refine ynil' (kthn (hK30 _ _ ?_))
       clear hK30
       refine cret (kthr ?_)
       first
         | (exfalso; omega; done)
         | (refine kretv Tryz.results51 rfl (L1 := [sc s _ 55, sc b _ 2, rcelP c p _, rdev p la _] ++ R) zge ?_
            rw [hls.1, hls.2, hask]; exact ⟨_, ⟨rfl, rfl⟩, rfl⟩)
      ·(try simp only [sH] at h154)
       refine cskip' (kthn (hK28 _ _ ?_))
       clear hK28
       refine cseq ?_; intro K31 hK31
       refine cseq ?_; intro K32 hK32
       refine creg ?_
       have h3 : ¬ (W.f.holder ≠ fr ∧ 0 < W.left) := by omega
       refine y (ev_move rfl) rfl ?_
       refine y (ev_nil rfl) rfl ?_
       refine y (ev_fieldAddr 1 rfl Tryz.underlying55 rfl Tryz.sizeOf2) rfl ?_
       refine y (ev_load rfl Tryz.isAgg2 zin rfl) rfl ?_
       refine y (ev_eql rfl rfl) rfl ?_
       refine ynil' (kthn (hK32 _ _ ?_))
       clear hK32
       refine ccond rfl (fun h161 => ?_) (fun h161 => ?_)
       ·(try simp only [sH] at h161)
        have hask : W.askR E fr m = (22, W, E) := by unfold WitM.askR; rw [if_neg (by simp [hi]), if_neg h2, if_neg h3, if_pos (by omega)]
        refine cseq ?_; intro K33 hK33
        refine creg ?_
        refine y (ev_assign rfl) rfl ?_
        refine ynil' (kthn (hK33 _ _ ?_))
        clear hK33
        refine cret (kthr ?_)
        first
          | (exfalso; omega; done)
          | (refine kretv Tryz.results51 rfl (L1 := [sc s _ 55, sc b _ 2, rcelP c p _, rdev p la _] ++ R) zge ?_
             rw [hls.1, hls.2, hask]; exact ⟨_, ⟨rfl, rfl⟩, rfl⟩)
       ·(try simp only [sH] at h161)
        have hfo : ({ W.f with epoch := W.f.epoch + 1, holder := fr, change := 0 } : FactM).ok := ⟨by dsimp only; omega, by dsimp only; omega, hW.f.mask, by dsimp only; omega, hW.f.l0, hW.f.l1⟩
        obtain ⟨r, hr0⟩ : ∃ r, W.putR E { W.f with epoch := W.f.epoch + 1, holder := fr, change := 0 } = r := ⟨_, rfl⟩
        have hask : W.askR E fr m = (r.1, if r.1 = 0 then { r.2.1 with left := r.2.1.wait } else r.2.1, r.2.2) := by unfold WitM.askR; rw [if_neg (by simp [hi]), if_neg h2, if_neg h3, if_neg (by omega)]; dsimp only; rw [hr0]
        refine cskip' (kthn (hK31 _ _ ?_))
        clear hK31
        refine cseq ?_; intro K34 hK34
        refine cdraw 15 [(0, true), (1, true), (2, true), (3, true), (4, true), (5, true), (6, true), (7, true), (8, true), (9, true), (10, true), (11, true), (12, true), (13, true), (14, true)] ([sc s _ 55] ++ R) Tryz.mixed (by kernel_rfl) zge ?_
        refine hr rfl (ev_move rfl) rfl ?_
        refine hr rfl (ev_move rfl) rfl ?_
        refine hr rfl (ev_nil rfl) rfl ?_
        refine hr rfl (ev_fieldAddr 1 rfl Tryz.underlying55 rfl Tryz.sizeOf2) rfl ?_
        refine hr rfl (ev_load rfl Tryz.isAgg2 zin rfl) rfl ?_
        refine hr rfl (ev_add rfl rfl) rfl ?_
        rw [wr (by omega) (by omega)]
        refine hr rfl (ev_move rfl) rfl ?_
        refine hr rfl (ev_move rfl) rfl ?_
        refine hr rfl (ev_nil rfl) rfl ?_
        refine hr rfl (ev_fieldAddr 3 rfl Tryz.underlying55 rfl Tryz.sizeOf3) rfl ?_
        refine hr rfl (ev_load rfl Tryz.isAgg3 zin rfl) rfl ?_
        refine hr rfl (ev_move rfl) rfl ?_
        refine hr rfl (ev_nil rfl) rfl ?_
        refine hr rfl (ev_fieldAddr 5 rfl Tryz.underlying55 rfl Tryz.sizeOf53) rfl ?_
        refine hr rfl (ev_load rfl Tryz.isAgg53 zin rfl) rfl ?_
        refine hnil ?_
        refine ycall (xPut (W := W) (f := { W.f with epoch := W.f.epoch + 1, holder := fr, change := 0 }) ?wok178 ?fok178 ?lv178) rfl Tryz.call83 ztk rfl ?_
        case wok178 => exact hW
        case fok178 => exact hfo
        case lv178 => exact ls_rd zin
        rintro v L' ⟨rfl, rfl⟩
        rw [hr0, show (if r.1 = 0 then lsV b else lsV b) = lsV b by split <;> rfl]
        refine y (ev_assign rfl) rfl ?_
        refine hnoP' (kthn (hK34 _ _ ?_))
        clear hK34
        refine cseq ?_; intro K35 hK35
        refine cseq ?_; intro K36 hK36
        refine creg ?_
        refine y (ev_move rfl) rfl ?_
        refine y (ev_eql rfl rfl) rfl ?_
        refine ynil' (kthn (hK36 _ _ ?_))
        clear hK36
        refine ccond rfl (fun h182 => ?_) (fun h182 => ?_)
        ·(try simp only [sH] at h182)
         rw [if_pos h182] at hask
         refine creg ?_
         unfold rwS
         refine y (ev_move rfl) rfl ?_
         refine y (ev_move rfl) rfl ?_
         refine y (ev_nil rfl) rfl ?_
         refine y (ev_fieldAddr 7 rfl Tryz.underlying55 rfl Tryz.sizeOf2) rfl ?_
         refine y (ev_load rfl Tryz.isAgg2 zin rfl) rfl ?_
         refine y (ev_nil rfl) rfl ?_
         refine y (ev_fieldAddr 6 rfl Tryz.underlying55 rfl Tryz.sizeOf2) rfl ?_
         refine ya0 (ac_store rfl rfl (by first | rfl | exact svVal_one _ _ | assumption) Tryz.sizeOf2 zrp rfl rfl) ?_
         rintro v L' ⟨rfl, rfl⟩
         refine ynil' (kthn (hK35 _ _ ?_))
         clear hK35
         refine cseq ?_; intro K37 hK37
         refine creg ?_
         refine y (ev_move rfl) rfl ?_
         refine y (ev_assign rfl) rfl ?_
         refine ynil' (kthn (hK37 _ _ ?_))
         clear hK37
         refine cret ?_
         first
           | (exfalso; omega; done)
           | (refine kretv Tryz.results51 rfl (L1 := [sc s _ 55, sc b _ 2, rcelP c p _, rdev p la _] ++ R) zge ?_
              rw [hls.1, hls.2, hask]; exact ⟨_, ⟨rfl, rfl⟩, rfl⟩)
        ·(try simp only [sH] at h182)
         rw [if_neg h182] at hask
         refine cskip' (kthn (hK35 _ _ ?_))
         clear hK35
         refine cseq ?_; intro K38 hK38
         refine creg ?_
         refine y (ev_move rfl) rfl ?_
         refine y (ev_assign rfl) rfl ?_
         refine ynil' (kthn (hK38 _ _ ?_))
         clear hK38
         refine cret ?_
         first
           | (exfalso; omega; done)
           | (refine kretv Tryz.results51 rfl (L1 := [sc s _ 55, sc b _ 2, rcelP c p _, rdev p la _] ++ R) zge ?_
              rw [hls.1, hls.2, hask]; exact ⟨_, ⟨rfl, rfl⟩, rfl⟩)
     ·(try simp only [sH] at h147)
      refine yg0 rfl rfl rfl rfl ?_
      refine yg0 rfl rfl rfl rfl ?_
      refine yg0 rfl rfl rfl rfl ?_
      refine yg0 rfl rfl rfl rfl ?_
      refine yg0 rfl rfl rfl rfl ?_
      refine y (ev_pick0 rfl rfl) rfl ?_
      refine ynil' (kthn (hK29 _ _ ?_))
      clear hK29
      refine ccond0 rfl ?_
      refine cskip' (kthn (hK28 _ _ ?_))
      clear hK28
      refine cseq ?_; intro K39 hK39
      refine cseq ?_; intro K40 hK40
      refine creg ?_
      have h3 : ¬ (W.f.holder ≠ fr ∧ 0 < W.left) := by omega
      refine y (ev_move rfl) rfl ?_
      refine y (ev_nil rfl) rfl ?_
      refine y (ev_fieldAddr 1 rfl Tryz.underlying55 rfl Tryz.sizeOf2) rfl ?_
      refine y (ev_load rfl Tryz.isAgg2 zin rfl) rfl ?_
      refine y (ev_eql rfl rfl) rfl ?_
      refine ynil' (kthn (hK40 _ _ ?_))
      clear hK40
      refine ccond rfl (fun h201 => ?_) (fun h201 => ?_)
      ·(try simp only [sH] at h201)
       have hask : W.askR E fr m = (22, W, E) := by unfold WitM.askR; rw [if_neg (by simp [hi]), if_neg h2, if_neg h3, if_pos (by omega)]
       refine cseq ?_; intro K41 hK41
       refine creg ?_
       refine y (ev_assign rfl) rfl ?_
       refine ynil' (kthn (hK41 _ _ ?_))
       clear hK41
       refine cret (kthr ?_)
       first
         | (exfalso; omega; done)
         | (refine kretv Tryz.results51 rfl (L1 := [sc s _ 55, sc b _ 2, rcelP c p _, rdev p la _] ++ R) zge ?_
            rw [hls.1, hls.2, hask]; exact ⟨_, ⟨rfl, rfl⟩, rfl⟩)
      ·(try simp only [sH] at h201)
       have hfo : ({ W.f with epoch := W.f.epoch + 1, holder := fr, change := 0 } : FactM).ok := ⟨by dsimp only; omega, by dsimp only; omega, hW.f.mask, by dsimp only; omega, hW.f.l0, hW.f.l1⟩
       obtain ⟨r, hr0⟩ : ∃ r, W.putR E { W.f with epoch := W.f.epoch + 1, holder := fr, change := 0 } = r := ⟨_, rfl⟩
       have hask : W.askR E fr m = (r.1, if r.1 = 0 then { r.2.1 with left := r.2.1.wait } else r.2.1, r.2.2) := by unfold WitM.askR; rw [if_neg (by simp [hi]), if_neg h2, if_neg h3, if_neg (by omega)]; dsimp only; rw [hr0]
       refine cskip' (kthn (hK39 _ _ ?_))
       clear hK39
       refine cseq ?_; intro K42 hK42
       refine cdraw 15 [(0, true), (1, true), (2, true), (3, true), (4, true), (5, true), (6, true), (7, true), (8, true), (9, true), (10, true), (11, true), (12, true), (13, true), (14, true)] ([sc s _ 55] ++ R) Tryz.mixed (by kernel_rfl) zge ?_
       refine hr rfl (ev_move rfl) rfl ?_
       refine hr rfl (ev_move rfl) rfl ?_
       refine hr rfl (ev_nil rfl) rfl ?_
       refine hr rfl (ev_fieldAddr 1 rfl Tryz.underlying55 rfl Tryz.sizeOf2) rfl ?_
       refine hr rfl (ev_load rfl Tryz.isAgg2 zin rfl) rfl ?_
       refine hr rfl (ev_add rfl rfl) rfl ?_
       rw [wr (by omega) (by omega)]
       refine hr rfl (ev_move rfl) rfl ?_
       refine hr rfl (ev_move rfl) rfl ?_
       refine hr rfl (ev_nil rfl) rfl ?_
       refine hr rfl (ev_fieldAddr 3 rfl Tryz.underlying55 rfl Tryz.sizeOf3) rfl ?_
       refine hr rfl (ev_load rfl Tryz.isAgg3 zin rfl) rfl ?_
       refine hr rfl (ev_move rfl) rfl ?_
       refine hr rfl (ev_nil rfl) rfl ?_
       refine hr rfl (ev_fieldAddr 5 rfl Tryz.underlying55 rfl Tryz.sizeOf53) rfl ?_
       refine hr rfl (ev_load rfl Tryz.isAgg53 zin rfl) rfl ?_
       refine hnil ?_
       refine ycall (xPut (W := W) (f := { W.f with epoch := W.f.epoch + 1, holder := fr, change := 0 }) ?wok218 ?fok218 ?lv218) rfl Tryz.call83 ztk rfl ?_
       case wok218 => exact hW
       case fok218 => exact hfo
       case lv218 => exact ls_rd zin
       rintro v L' ⟨rfl, rfl⟩
       rw [hr0, show (if r.1 = 0 then lsV b else lsV b) = lsV b by split <;> rfl]
       refine y (ev_assign rfl) rfl ?_
       refine hnoP' (kthn (hK42 _ _ ?_))
       clear hK42
       refine cseq ?_; intro K43 hK43
       refine cseq ?_; intro K44 hK44
       refine creg ?_
       refine y (ev_move rfl) rfl ?_
       refine y (ev_eql rfl rfl) rfl ?_
       refine ynil' (kthn (hK44 _ _ ?_))
       clear hK44
       refine ccond rfl (fun h222 => ?_) (fun h222 => ?_)
       ·(try simp only [sH] at h222)
        rw [if_pos h222] at hask
        refine creg ?_
        unfold rwS
        refine y (ev_move rfl) rfl ?_
        refine y (ev_move rfl) rfl ?_
        refine y (ev_nil rfl) rfl ?_
        refine y (ev_fieldAddr 7 rfl Tryz.underlying55 rfl Tryz.sizeOf2) rfl ?_
        refine y (ev_load rfl Tryz.isAgg2 zin rfl) rfl ?_
        refine y (ev_nil rfl) rfl ?_
        refine y (ev_fieldAddr 6 rfl Tryz.underlying55 rfl Tryz.sizeOf2) rfl ?_
        refine ya0 (ac_store rfl rfl (by first | rfl | exact svVal_one _ _ | assumption) Tryz.sizeOf2 zrp rfl rfl) ?_
        rintro v L' ⟨rfl, rfl⟩
        refine ynil' (kthn (hK43 _ _ ?_))
        clear hK43
        refine cseq ?_; intro K45 hK45
        refine creg ?_
        refine y (ev_move rfl) rfl ?_
        refine y (ev_assign rfl) rfl ?_
        refine ynil' (kthn (hK45 _ _ ?_))
        clear hK45
        refine cret ?_
        first
          | (exfalso; omega; done)
          | (refine kretv Tryz.results51 rfl (L1 := [sc s _ 55, sc b _ 2, rcelP c p _, rdev p la _] ++ R) zge ?_
             rw [hls.1, hls.2, hask]; exact ⟨_, ⟨rfl, rfl⟩, rfl⟩)
       ·(try simp only [sH] at h222)
        rw [if_neg h222] at hask
        refine cskip' (kthn (hK43 _ _ ?_))
        clear hK43
        refine cseq ?_; intro K46 hK46
        refine creg ?_
        refine y (ev_move rfl) rfl ?_
        refine y (ev_assign rfl) rfl ?_
        refine ynil' (kthn (hK46 _ _ ?_))
        clear hK46
        refine cret ?_
        first
          | (exfalso; omega; done)
          | (refine kretv Tryz.results51 rfl (L1 := [sc s _ 55, sc b _ 2, rcelP c p _, rdev p la _] ++ R) zge ?_
             rw [hls.1, hls.2, hask]; exact ⟨_, ⟨rfl, rfl⟩, rfl⟩)
   ·(try simp only [sH] at h19)
    refine hr0 rfl rfl rfl rfl rfl ?_
    refine hr0 rfl rfl rfl rfl rfl ?_
    refine hr0 rfl rfl rfl rfl rfl ?_
    refine hr rfl (ev_pick0 rfl rfl) rfl ?_
    refine hr rfl (ev_move rfl) rfl ?_
    refine hr0 rfl rfl rfl rfl rfl ?_
    refine hr0 rfl rfl rfl rfl rfl ?_
    refine hr0 rfl rfl rfl rfl rfl ?_
    refine hr0 rfl rfl rfl rfl rfl ?_
    refine hr0 rfl rfl rfl rfl rfl ?_
    refine hr0 rfl rfl rfl rfl rfl ?_
    refine hr0 rfl rfl rfl rfl rfl ?_
    refine hnil ?_
    refine y (ev_pick0 rfl rfl) rfl ?_
    refine hnoP' (kthn (hK6 _ _ ?_))
    clear hK6
    refine ccond0 rfl ?_
    refine cskip' (kthn (hK5 _ _ ?_))
    clear hK5
    refine cseq ?_; intro K47 hK47
    refine cseq ?_; intro K48 hK48
    refine creg ?_
    have h2 : ¬ (W.f.holder = fr ∧ m.seq = 0 ∧ m.epoch = W.f.epoch) := by omega
    refine y (ev_move rfl) rfl ?_
    refine y (ev_nil rfl) rfl ?_
    refine y (ev_fieldAddr 2 rfl Tryz.underlying55 rfl Tryz.sizeOf3) rfl ?_
    refine y (ev_load rfl Tryz.isAgg3 zin rfl) rfl ?_
    refine y (ev_move rfl) rfl ?_
    refine y (ev_neq rfl rfl) rfl ?_
    refine y (ev_move rfl) rfl ?_
    refine ysplit 48 rfl (fun h245 => ?_) (fun h245 => ?_)
    ·(try simp only [sH] at h245)
     refine yg1 rfl rfl ?_
     refine y (ev_move rfl) rfl ?_
     refine yg1 rfl rfl ?_
     refine y (ev_nil rfl) rfl ?_
     refine yg1 rfl rfl ?_
     refine y (ev_fieldAddr 6 rfl Tryz.underlying55 rfl Tryz.sizeOf2) rfl ?_
     refine yg1 rfl rfl ?_
     refine y (ev_load rfl Tryz.isAgg2 zin rfl) rfl ?_
     refine yg1 rfl rfl ?_
     refine y (ev_gtr rfl rfl) rfl ?_
     refine y (ev_pick1 rfl rfl) rfl ?_
     refine ynil' (kthn (hK48 _ _ ?_))
     clear hK48
     refine ccond rfl (fun h252 => ?_) (fun h252 => ?_)
     ·(try simp only [sH] at h252)
      refine cseq ?_; intro K49 hK49
      refine creg ?_
      have hask : W.askR E fr m = (25, W, E) := by unfold WitM.askR; rw [if_neg (by simp [hi]), if_neg h2, if_pos ⟨by omega, by omega⟩]
      refine y (ev_assign rfl) rfl ?_
      refine ynil' (kthn (hK49 _ _ ?_))
      clear hK49
      refine cret (kthr ?_)
      first
        | (exfalso; omega; done)
        | (refine kretv Tryz.results51 rfl (L1 := [sc s _ 55, sc b _ 2, rcelP c p _, rdev p la _] ++ R) zge ?_
           rw [hls.1, hls.2, hask]; exact ⟨_, ⟨rfl, rfl⟩, rfl⟩)
     ·(try simp only [sH] at h252)
      refine cskip' (kthn (hK47 _ _ ?_))
      clear hK47
      refine cseq ?_; intro K50 hK50
      refine cseq ?_; intro K51 hK51
      refine creg ?_
      have h3 : ¬ (W.f.holder ≠ fr ∧ 0 < W.left) := by omega
      refine y (ev_move rfl) rfl ?_
      refine y (ev_nil rfl) rfl ?_
      refine y (ev_fieldAddr 1 rfl Tryz.underlying55 rfl Tryz.sizeOf2) rfl ?_
      refine y (ev_load rfl Tryz.isAgg2 zin rfl) rfl ?_
      refine y (ev_eql rfl rfl) rfl ?_
      refine ynil' (kthn (hK51 _ _ ?_))
      clear hK51
      refine ccond rfl (fun h259 => ?_) (fun h259 => ?_)
      ·(try simp only [sH] at h259)
       have hask : W.askR E fr m = (22, W, E) := by unfold WitM.askR; rw [if_neg (by simp [hi]), if_neg h2, if_neg h3, if_pos (by omega)]
       refine cseq ?_; intro K52 hK52
       refine creg ?_
       refine y (ev_assign rfl) rfl ?_
       refine ynil' (kthn (hK52 _ _ ?_))
       clear hK52
       refine cret (kthr ?_)
       first
         | (exfalso; omega; done)
         | (refine kretv Tryz.results51 rfl (L1 := [sc s _ 55, sc b _ 2, rcelP c p _, rdev p la _] ++ R) zge ?_
            rw [hls.1, hls.2, hask]; exact ⟨_, ⟨rfl, rfl⟩, rfl⟩)
      ·(try simp only [sH] at h259)
       have hfo : ({ W.f with epoch := W.f.epoch + 1, holder := fr, change := 0 } : FactM).ok := ⟨by dsimp only; omega, by dsimp only; omega, hW.f.mask, by dsimp only; omega, hW.f.l0, hW.f.l1⟩
       obtain ⟨r, hr0⟩ : ∃ r, W.putR E { W.f with epoch := W.f.epoch + 1, holder := fr, change := 0 } = r := ⟨_, rfl⟩
       have hask : W.askR E fr m = (r.1, if r.1 = 0 then { r.2.1 with left := r.2.1.wait } else r.2.1, r.2.2) := by unfold WitM.askR; rw [if_neg (by simp [hi]), if_neg h2, if_neg h3, if_neg (by omega)]; dsimp only; rw [hr0]
       refine cskip' (kthn (hK50 _ _ ?_))
       clear hK50
       refine cseq ?_; intro K53 hK53
       refine cdraw 15 [(0, true), (1, true), (2, true), (3, true), (4, true), (5, true), (6, true), (7, true), (8, true), (9, true), (10, true), (11, true), (12, true), (13, true), (14, true)] ([sc s _ 55] ++ R) Tryz.mixed (by kernel_rfl) zge ?_
       refine hr rfl (ev_move rfl) rfl ?_
       refine hr rfl (ev_move rfl) rfl ?_
       refine hr rfl (ev_nil rfl) rfl ?_
       refine hr rfl (ev_fieldAddr 1 rfl Tryz.underlying55 rfl Tryz.sizeOf2) rfl ?_
       refine hr rfl (ev_load rfl Tryz.isAgg2 zin rfl) rfl ?_
       refine hr rfl (ev_add rfl rfl) rfl ?_
       rw [wr (by omega) (by omega)]
       refine hr rfl (ev_move rfl) rfl ?_
       refine hr rfl (ev_move rfl) rfl ?_
       refine hr rfl (ev_nil rfl) rfl ?_
       refine hr rfl (ev_fieldAddr 3 rfl Tryz.underlying55 rfl Tryz.sizeOf3) rfl ?_
       refine hr rfl (ev_load rfl Tryz.isAgg3 zin rfl) rfl ?_
       refine hr rfl (ev_move rfl) rfl ?_
       refine hr rfl (ev_nil rfl) rfl ?_
       refine hr rfl (ev_fieldAddr 5 rfl Tryz.underlying55 rfl Tryz.sizeOf53) rfl ?_
       refine hr rfl (ev_load rfl Tryz.isAgg53 zin rfl) rfl ?_
       refine hnil ?_
       refine ycall (xPut (W := W) (f := { W.f with epoch := W.f.epoch + 1, holder := fr, change := 0 }) ?wok276 ?fok276 ?lv276) rfl Tryz.call83 ztk rfl ?_
       case wok276 => exact hW
       case fok276 => exact hfo
       case lv276 => exact ls_rd zin
       rintro v L' ⟨rfl, rfl⟩
       rw [hr0, show (if r.1 = 0 then lsV b else lsV b) = lsV b by split <;> rfl]
       refine y (ev_assign rfl) rfl ?_
       refine hnoP' (kthn (hK53 _ _ ?_))
       clear hK53
       refine cseq ?_; intro K54 hK54
       refine cseq ?_; intro K55 hK55
       refine creg ?_
       refine y (ev_move rfl) rfl ?_
       refine y (ev_eql rfl rfl) rfl ?_
       refine ynil' (kthn (hK55 _ _ ?_))
       clear hK55
       refine ccond rfl (fun h280 => ?_) (fun h280 => ?_)
       ·(try simp only [sH] at h280)
        rw [if_pos h280] at hask
        refine creg ?_
        unfold rwS
        refine y (ev_move rfl) rfl ?_
        refine y (ev_move rfl) rfl ?_
        refine y (ev_nil rfl) rfl ?_
        refine y (ev_fieldAddr 7 rfl Tryz.underlying55 rfl Tryz.sizeOf2) rfl ?_
        refine y (ev_load rfl Tryz.isAgg2 zin rfl) rfl ?_
        refine y (ev_nil rfl) rfl ?_
        refine y (ev_fieldAddr 6 rfl Tryz.underlying55 rfl Tryz.sizeOf2) rfl ?_
        refine ya0 (ac_store rfl rfl (by first | rfl | exact svVal_one _ _ | assumption) Tryz.sizeOf2 zrp rfl rfl) ?_
        rintro v L' ⟨rfl, rfl⟩
        refine ynil' (kthn (hK54 _ _ ?_))
        clear hK54
        refine cseq ?_; intro K56 hK56
        refine creg ?_
        refine y (ev_move rfl) rfl ?_
        refine y (ev_assign rfl) rfl ?_
        refine ynil' (kthn (hK56 _ _ ?_))
        clear hK56
        refine cret ?_
        first
          | (exfalso; omega; done)
          | (refine kretv Tryz.results51 rfl (L1 := [sc s _ 55, sc b _ 2, rcelP c p _, rdev p la _] ++ R) zge ?_
             rw [hls.1, hls.2, hask]; exact ⟨_, ⟨rfl, rfl⟩, rfl⟩)
       ·(try simp only [sH] at h280)
        rw [if_neg h280] at hask
        refine cskip' (kthn (hK54 _ _ ?_))
        clear hK54
        refine cseq ?_; intro K57 hK57
        refine creg ?_
        refine y (ev_move rfl) rfl ?_
        refine y (ev_assign rfl) rfl ?_
        refine ynil' (kthn (hK57 _ _ ?_))
        clear hK57
        refine cret ?_
        first
          | (exfalso; omega; done)
          | (refine kretv Tryz.results51 rfl (L1 := [sc s _ 55, sc b _ 2, rcelP c p _, rdev p la _] ++ R) zge ?_
             rw [hls.1, hls.2, hask]; exact ⟨_, ⟨rfl, rfl⟩, rfl⟩)
    ·(try simp only [sH] at h245)
     refine yg0 rfl rfl rfl rfl ?_
     refine yg0 rfl rfl rfl rfl ?_
     refine yg0 rfl rfl rfl rfl ?_
     refine yg0 rfl rfl rfl rfl ?_
     refine yg0 rfl rfl rfl rfl ?_
     refine y (ev_pick0 rfl rfl) rfl ?_
     refine ynil' (kthn (hK48 _ _ ?_))
     clear hK48
     refine ccond0 rfl ?_
     refine cskip' (kthn (hK47 _ _ ?_))
     clear hK47
     refine cseq ?_; intro K58 hK58
     refine cseq ?_; intro K59 hK59
     refine creg ?_
     have h3 : ¬ (W.f.holder ≠ fr ∧ 0 < W.left) := by omega
     refine y (ev_move rfl) rfl ?_
     refine y (ev_nil rfl) rfl ?_
     refine y (ev_fieldAddr 1 rfl Tryz.underlying55 rfl Tryz.sizeOf2) rfl ?_
     refine y (ev_load rfl Tryz.isAgg2 zin rfl) rfl ?_
     refine y (ev_eql rfl rfl) rfl ?_
     refine ynil' (kthn (hK59 _ _ ?_))
     clear hK59
     refine ccond rfl (fun h299 => ?_) (fun h299 => ?_)
     ·(try simp only [sH] at h299)
      have hask : W.askR E fr m = (22, W, E) := by unfold WitM.askR; rw [if_neg (by simp [hi]), if_neg h2, if_neg h3, if_pos (by omega)]
      refine cseq ?_; intro K60 hK60
      refine creg ?_
      refine y (ev_assign rfl) rfl ?_
      refine ynil' (kthn (hK60 _ _ ?_))
      clear hK60
      refine cret (kthr ?_)
      first
        | (exfalso; omega; done)
        | (refine kretv Tryz.results51 rfl (L1 := [sc s _ 55, sc b _ 2, rcelP c p _, rdev p la _] ++ R) zge ?_
           rw [hls.1, hls.2, hask]; exact ⟨_, ⟨rfl, rfl⟩, rfl⟩)
     ·(try simp only [sH] at h299)
      have hfo : ({ W.f with epoch := W.f.epoch + 1, holder := fr, change := 0 } : FactM).ok := ⟨by dsimp only; omega, by dsimp only; omega, hW.f.mask, by dsimp only; omega, hW.f.l0, hW.f.l1⟩
      obtain ⟨r, hr0⟩ : ∃ r, W.putR E { W.f with epoch := W.f.epoch + 1, holder := fr, change := 0 } = r := ⟨_, rfl⟩
      have hask : W.askR E fr m = (r.1, if r.1 = 0 then { r.2.1 with left := r.2.1.wait } else r.2.1, r.2.2) := by unfold WitM.askR; rw [if_neg (by simp [hi]), if_neg h2, if_neg h3, if_neg (by omega)]; dsimp only; rw [hr0]
      refine cskip' (kthn (hK58 _ _ ?_))
      clear hK58
      refine cseq ?_; intro K61 hK61
      refine cdraw 15 [(0, true), (1, true), (2, true), (3, true), (4, true), (5, true), (6, true), (7, true), (8, true), (9, true), (10, true), (11, true), (12, true), (13, true), (14, true)] ([sc s _ 55] ++ R) Tryz.mixed (by kernel_rfl) zge ?_
      refine hr rfl (ev_move rfl) rfl ?_
      refine hr rfl (ev_move rfl) rfl ?_
      refine hr rfl (ev_nil rfl) rfl ?_
      refine hr rfl (ev_fieldAddr 1 rfl Tryz.underlying55 rfl Tryz.sizeOf2) rfl ?_
      refine hr rfl (ev_load rfl Tryz.isAgg2 zin rfl) rfl ?_
      refine hr rfl (ev_add rfl rfl) rfl ?_
      rw [wr (by omega) (by omega)]
      refine hr rfl (ev_move rfl) rfl ?_
      refine hr rfl (ev_move rfl) rfl ?_
      refine hr rfl (ev_nil rfl) rfl ?_
      refine hr rfl (ev_fieldAddr 3 rfl Tryz.underlying55 rfl Tryz.sizeOf3) rfl ?_
      refine hr rfl (ev_load rfl Tryz.isAgg3 zin rfl) rfl ?_
      refine hr rfl (ev_move rfl) rfl ?_
      refine hr rfl (ev_nil rfl) rfl ?_
      refine hr rfl (ev_fieldAddr 5 rfl Tryz.underlying55 rfl Tryz.sizeOf53) rfl ?_
      refine hr rfl (ev_load rfl Tryz.isAgg53 zin rfl) rfl ?_
      refine hnil ?_
      refine ycall (xPut (W := W) (f := { W.f with epoch := W.f.epoch + 1, holder := fr, change := 0 }) ?wok316 ?fok316 ?lv316) rfl Tryz.call83 ztk rfl ?_
      case wok316 => exact hW
      case fok316 => exact hfo
      case lv316 => exact ls_rd zin
      rintro v L' ⟨rfl, rfl⟩
      rw [hr0, show (if r.1 = 0 then lsV b else lsV b) = lsV b by split <;> rfl]
      refine y (ev_assign rfl) rfl ?_
      refine hnoP' (kthn (hK61 _ _ ?_))
      clear hK61
      refine cseq ?_; intro K62 hK62
      refine cseq ?_; intro K63 hK63
      refine creg ?_
      refine y (ev_move rfl) rfl ?_
      refine y (ev_eql rfl rfl) rfl ?_
      refine ynil' (kthn (hK63 _ _ ?_))
      clear hK63
      refine ccond rfl (fun h320 => ?_) (fun h320 => ?_)
      ·(try simp only [sH] at h320)
       rw [if_pos h320] at hask
       refine creg ?_
       unfold rwS
       refine y (ev_move rfl) rfl ?_
       refine y (ev_move rfl) rfl ?_
       refine y (ev_nil rfl) rfl ?_
       refine y (ev_fieldAddr 7 rfl Tryz.underlying55 rfl Tryz.sizeOf2) rfl ?_
       refine y (ev_load rfl Tryz.isAgg2 zin rfl) rfl ?_
       refine y (ev_nil rfl) rfl ?_
       refine y (ev_fieldAddr 6 rfl Tryz.underlying55 rfl Tryz.sizeOf2) rfl ?_
       refine ya0 (ac_store rfl rfl (by first | rfl | exact svVal_one _ _ | assumption) Tryz.sizeOf2 zrp rfl rfl) ?_
       rintro v L' ⟨rfl, rfl⟩
       refine ynil' (kthn (hK62 _ _ ?_))
       clear hK62
       refine cseq ?_; intro K64 hK64
       refine creg ?_
       refine y (ev_move rfl) rfl ?_
       refine y (ev_assign rfl) rfl ?_
       refine ynil' (kthn (hK64 _ _ ?_))
       clear hK64
       refine cret ?_
       first
         | (exfalso; omega; done)
         | (refine kretv Tryz.results51 rfl (L1 := [sc s _ 55, sc b _ 2, rcelP c p _, rdev p la _] ++ R) zge ?_
            rw [hls.1, hls.2, hask]; exact ⟨_, ⟨rfl, rfl⟩, rfl⟩)
      ·(try simp only [sH] at h320)
       rw [if_neg h320] at hask
       refine cskip' (kthn (hK62 _ _ ?_))
       clear hK62
       refine cseq ?_; intro K65 hK65
       refine creg ?_
       refine y (ev_move rfl) rfl ?_
       refine y (ev_assign rfl) rfl ?_
       refine ynil' (kthn (hK65 _ _ ?_))
       clear hK65
       refine cret ?_
       first
         | (exfalso; omega; done)
         | (refine kretv Tryz.results51 rfl (L1 := [sc s _ 55, sc b _ 2, rcelP c p _, rdev p la _] ++ R) zge ?_
            rw [hls.1, hls.2, hask]; exact ⟨_, ⟨rfl, rfl⟩, rfl⟩)
theorem xChanged [Env] {R : List Seg} {s c b p la : Nat} {W : WitM} {E : RDev} {fr : Int} {m : MsgM} (hW : RWok W E) (hf : fr = 0 ∨ fr = 1) (hm : m.ok) :
    Con Tryz.prog 52 [ptr s, i64 fr, .agg m.cells.toArray] [rwS s c (lsV b) W, rwL b W.f, rcelP c p W.c, rdev p la E] R (Is (i64 (W.changedR E fr m).1) [rwS s c (lsV b) (W.changedR E fr m).2.1, rwL b (W.changedR E fr m).2.1.f, rcelP c p (W.changedR E fr m).2.1.c, rdev p la (W.changedR E fr m).2.2]) := by
  have hchg := hW.f.change
  have hmn := hm.n
  have hls := changed_l W E fr m
  refine con_enter Tryz.func52 Tryz.ntmps52 rfl rfl ?_
  unfold rwS rwL
  refine cseq ?_; intro K1 hK1
  refine creg ?_
  refine ya (ac_box (vs := m.cells) rfl rfl) rfl ?_
  rintro v L' ⟨b5, rfl, rfl⟩
  refine y (ev_assign rfl) rfl ?_
  refine ynil' (kthn (hK1 _ _ ?_))
  clear hK1
  refine cseq ?_; intro K2 hK2
  refine cseq ?_; intro K3 hK3
  refine cdraw 14 [(0, true), (1, true), (2, true), (3, true), (4, true), (5, true), (6, true), (7, true), (8, true), (9, true), (10, true), (11, true), (12, true), (13, true)] (_) Tryz.mixed (by kernel_rfl) .refl ?_
  refine hr rfl (ev_move rfl) rfl ?_
  refine hr rfl (ev_nil rfl) rfl ?_
  refine hr rfl (ev_fieldAddr 2 rfl Tryz.underlying55 rfl Tryz.sizeOf3) rfl ?_
  refine hr rfl (ev_load rfl Tryz.isAgg3 zin rfl) rfl ?_
  refine hr rfl (ev_move rfl) rfl ?_
  refine hr rfl (ev_neq rfl rfl) rfl ?_
  refine hr rfl (ev_move rfl) rfl ?_
  refine hsplit 13 rfl (fun h342 => ?_) (fun h342 => ?_)
  ·(try simp only [sH] at h342)
   refine hr0 rfl rfl rfl rfl rfl ?_
   refine hr0 rfl rfl rfl rfl rfl ?_
   refine hr0 rfl rfl rfl rfl rfl ?_
   refine hr0 rfl rfl rfl rfl rfl ?_
   refine hr0 rfl rfl rfl rfl rfl ?_
   refine hr0 rfl rfl rfl rfl rfl ?_
   refine hr0 rfl rfl rfl rfl rfl ?_
   refine hnil ?_
   refine y (ev_pick1 rfl rfl) rfl ?_
   refine hnoP' (kthn (hK3 _ _ ?_))
   clear hK3
   refine ccond1 rfl ?_
   refine cseq ?_; intro K4 hK4
   refine creg ?_
   have hch : W.changedR E fr m = (20, W, E) := by unfold WitM.changedR; rw [if_pos (by omega)]
   refine y (ev_assign rfl) rfl ?_
   refine ynil' (kthn (hK4 _ _ ?_))
   clear hK4
   refine cret (kthr ?_)
   first
     | (exfalso; omega; done)
     | (refine kretv Tryz.results52 rfl (L1 := [sc s _ 55, sc b _ 2, rcelP c p _, rdev p la _] ++ R) zge ?_
        rw [hls.1, hls.2, hch]; exact ⟨_, ⟨rfl, rfl⟩, rfl⟩)
  ·(try simp only [sH] at h342)
   refine hr1 rfl rfl rfl (ev_fieldAddr 1 rfl Tryz.underlying37 rfl Tryz.sizeOf2) rfl ?_
   refine hr1 rfl rfl rfl (ev_load rfl Tryz.isAgg2 zin rfl) rfl ?_
   refine hr1 rfl rfl rfl (ev_move rfl) rfl ?_
   refine hr1 rfl rfl rfl (ev_nil rfl) rfl ?_
   refine hr1 rfl rfl rfl (ev_fieldAddr 1 rfl Tryz.underlying55 rfl Tryz.sizeOf2) rfl ?_
   refine hr1 rfl rfl rfl (ev_load rfl Tryz.isAgg2 zin rfl) rfl ?_
   refine hr1 rfl rfl rfl (ev_neq rfl rfl) rfl ?_
   refine hnil ?_
   refine y (ev_pick0 rfl rfl) rfl ?_
   refine hnoP' (kthn (hK3 _ _ ?_))
   clear hK3
   refine ccond rfl (fun h353 => ?_) (fun h353 => ?_)
   ·(try simp only [sH] at h353)
    refine cseq ?_; intro K5 hK5
    refine creg ?_
    have hch : W.changedR E fr m = (20, W, E) := by unfold WitM.changedR; rw [if_pos (by omega)]
    refine y (ev_assign rfl) rfl ?_
    refine ynil' (kthn (hK5 _ _ ?_))
    clear hK5
    refine cret (kthr ?_)
    first
      | (exfalso; omega; done)
      | (refine kretv Tryz.results52 rfl (L1 := [sc s _ 55, sc b _ 2, rcelP c p _, rdev p la _] ++ R) zge ?_
         rw [hls.1, hls.2, hch]; exact ⟨_, ⟨rfl, rfl⟩, rfl⟩)
   ·(try simp only [sH] at h353)
    refine cskip' (kthn (hK2 _ _ ?_))
    clear hK2
    refine cseq ?_; intro K6 hK6
    refine cseq ?_; intro K7 hK7
    refine creg ?_
    have h1 : ¬ (W.f.holder ≠ fr ∨ m.epoch ≠ W.f.epoch) := by omega
    refine y (ev_fieldAddr 2 rfl Tryz.underlying37 rfl Tryz.sizeOf2) rfl ?_
    refine y (ev_load rfl Tryz.isAgg2 zin rfl) rfl ?_
    refine y (ev_lss rfl rfl) rfl ?_
    refine y (ev_move rfl) rfl ?_
    refine ysplit 25 rfl (fun h359 => ?_) (fun h359 => ?_)
    ·(try simp only [sH] at h359)
     refine yg0 rfl rfl rfl rfl ?_
     refine yg0 rfl rfl rfl rfl ?_
     refine yg0 rfl rfl rfl rfl ?_
     refine y (ev_pick1 rfl rfl) rfl ?_
     refine y (ev_move rfl) rfl ?_
     refine yg0 rfl rfl rfl rfl ?_
     refine yg0 rfl rfl rfl rfl ?_
     refine yg0 rfl rfl rfl rfl ?_
     refine yg0 rfl rfl rfl rfl ?_
     refine yg0 rfl rfl rfl rfl ?_
     refine y (ev_pick1 rfl rfl) rfl ?_
     refine ynil' (kthn (hK7 _ _ ?_))
     clear hK7
     refine ccond1 rfl ?_
     refine cseq ?_; intro K8 hK8
     refine creg ?_
     have hch : W.changedR E fr m = (1, W, E) := by
       unfold WitM.changedR
       rw [if_neg h1, if_pos]
       first
       | (left; refine Bool.eq_false_iff.2 fun hq => ?_; have hq := within3_iff.1 hq; omega)
       | exact .inr (by by_cases h : inM m.seq fr = true <;> simp_all)
     refine y (ev_assign rfl) rfl ?_
     refine ynil' (kthn (hK8 _ _ ?_))
     clear hK8
     refine cret (kthr ?_)
     first
       | (exfalso; omega; done)
       | (refine kretv Tryz.results52 rfl (L1 := [sc s _ 55, sc b _ 2, rcelP c p _, rdev p la _] ++ R) zge ?_
          rw [hls.1, hls.2, hch]; exact ⟨_, ⟨rfl, rfl⟩, rfl⟩)
    ·(try simp only [sH] at h359)
     refine yg1 rfl rfl ?_
     refine y (ev_fieldAddr 2 rfl Tryz.underlying37 rfl Tryz.sizeOf2) rfl ?_
     refine yg1 rfl rfl ?_
     refine y (ev_load rfl Tryz.isAgg2 zin rfl) rfl ?_
     refine yg1 rfl rfl ?_
     refine y (ev_gtr rfl rfl) rfl ?_
     refine y (ev_pick0 rfl rfl) rfl ?_
     refine y (ev_move rfl) rfl ?_
     refine ysplit 30 rfl (fun h369 => ?_) (fun h369 => ?_)
     ·(try simp only [sH] at h369)
      refine yg0 rfl rfl rfl rfl ?_
      refine yg0 rfl rfl rfl rfl ?_
      refine yg0 rfl rfl rfl rfl ?_
      refine yg0 rfl rfl rfl rfl ?_
      refine yg0 rfl rfl rfl rfl ?_
      refine y (ev_pick1 rfl rfl) rfl ?_
      refine ynil' (kthn (hK7 _ _ ?_))
      clear hK7
      refine ccond1 rfl ?_
      refine cseq ?_; intro K9 hK9
      refine creg ?_
      have hch : W.changedR E fr m = (1, W, E) := by
        unfold WitM.changedR
        rw [if_neg h1, if_pos]
        first
        | (left; refine Bool.eq_false_iff.2 fun hq => ?_; have hq := within3_iff.1 hq; omega)
        | exact .inr (by by_cases h : inM m.seq fr = true <;> simp_all)
      refine y (ev_assign rfl) rfl ?_
      refine ynil' (kthn (hK9 _ _ ?_))
      clear hK9
      refine cret (kthr ?_)
      first
        | (exfalso; omega; done)
        | (refine kretv Tryz.results52 rfl (L1 := [sc s _ 55, sc b _ 2, rcelP c p _, rdev p la _] ++ R) zge ?_
           rw [hls.1, hls.2, hch]; exact ⟨_, ⟨rfl, rfl⟩, rfl⟩)
     ·(try simp only [sH] at h369)
      have hsq : 1 ≤ m.seq ∧ m.seq ≤ 3 := by omega
      have hin := rInB_in hsq hf
      refine yg1 rfl rfl ?_
      refine y (ev_fieldAddr 2 rfl Tryz.underlying37 rfl Tryz.sizeOf2) rfl ?_
      refine yg1 rfl rfl ?_
      refine y (ev_load rfl Tryz.isAgg2 zin rfl) rfl ?_
      refine yg1 rfl rfl ?_
      refine y (ev_move rfl) rfl ?_
      refine yg1 rfl rfl ?_
      refine ycall (x14In) rfl Tryz.call82 ztk rfl ?_
      rintro v L' ⟨rfl, rfl⟩
      rw [hin]
      refine yg1 rfl rfl ?_
      refine y (ev_not rfl) rfl ?_
      refine y (ev_pick0 rfl rfl) rfl ?_
      refine ynil' (kthn (hK7 _ _ ?_))
      clear hK7
      refine ccond rfl (fun h378 => ?_) (fun h378 => ?_)
      ·(try simp only [sH] at h378)
       refine cseq ?_; intro K10 hK10
       refine creg ?_
       have hch : W.changedR E fr m = (1, W, E) := by
         unfold WitM.changedR
         rw [if_neg h1, if_pos]
         first
         | (left; refine Bool.eq_false_iff.2 fun hq => ?_; have hq := within3_iff.1 hq; omega)
         | exact .inr (by by_cases h : inM m.seq fr = true <;> simp_all)
       refine y (ev_assign rfl) rfl ?_
       refine ynil' (kthn (hK10 _ _ ?_))
       clear hK10
       refine cret (kthr ?_)
       first
         | (exfalso; omega; done)
         | (refine kretv Tryz.results52 rfl (L1 := [sc s _ 55, sc b _ 2, rcelP c p _, rdev p la _] ++ R) zge ?_
            rw [hls.1, hls.2, hch]; exact ⟨_, ⟨rfl, rfl⟩, rfl⟩)
      ·(try simp only [sH] at h378)
       refine cskip' (kthn (hK6 _ _ ?_))
       clear hK6
       refine cseq ?_; intro K11 hK11
       refine cseq ?_; intro K12 hK12
       refine cdraw 6 [(0, true), (1, true), (2, true), (3, true), (4, true), (5, true)] (_) Tryz.mixed (by kernel_rfl) .refl ?_
       have hw3 : within3 m.seq 1 3 = true := within3_iff.2 (by omega)
       have h2 : ¬ (within3 m.seq 1 3 = false ∨ inM m.seq fr = false) := by rw [hw3]; by_cases h : inM m.seq fr = true <;> simp_all
       refine hr rfl (ev_fieldAddr 3 rfl Tryz.underlying37 rfl Tryz.sizeOf2) rfl ?_
       refine hr rfl (ev_load rfl Tryz.isAgg2 zin rfl) rfl ?_
       refine hr rfl (ev_move rfl) rfl ?_
       refine hr rfl (ev_nil rfl) rfl ?_
       refine hr rfl (ev_fieldAddr 4 rfl Tryz.underlying55 rfl Tryz.sizeOf2) rfl ?_
       refine hr rfl (ev_load rfl Tryz.isAgg2 zin rfl) rfl ?_
       refine hnil ?_
       refine y (ev_leq rfl rfl) rfl ?_
       refine hnoP' (kthn (hK12 _ _ ?_))
       clear hK12
       refine ccond rfl (fun h387 => ?_) (fun h387 => ?_)
       ·(try simp only [sH] at h387)
        refine cseq ?_; intro K13 hK13
        refine creg ?_
        have hch : W.changedR E fr m = (0, W, E) := by unfold WitM.changedR; rw [if_neg h1, if_neg h2, if_pos (by omega)]
        refine y (ev_assign rfl) rfl ?_
        refine ynil' (kthn (hK13 _ _ ?_))
        clear hK13
        refine cret (kthr ?_)
        first
          | (exfalso; omega; done)
          | (refine kretv Tryz.results52 rfl (L1 := [sc s _ 55, sc b _ 2, rcelP c p _, rdev p la _] ++ R) zge ?_
             rw [hls.1, hls.2, hch]; exact ⟨_, ⟨rfl, rfl⟩, rfl⟩)
       ·(try simp only [sH] at h387)
        refine cskip' (kthn (hK11 _ _ ?_))
        clear hK11
        refine cseq ?_; intro K14 hK14
        refine cdraw 17 [(0, true), (1, true), (2, true), (3, true), (4, true), (5, true), (6, true), (7, true), (8, true), (9, true), (10, true), (11, true), (12, true), (13, true), (14, true), (15, true), (16, true)] ([sc s _ 55, sc b5 m.cells 37] ++ R) Tryz.mixed (by kernel_rfl) zge ?_
        have hfo : ({ W.f with mask := m.seq, change := m.n } : FactM).ok := ⟨hW.f.epoch, hW.f.holder, by dsimp only; omega, by dsimp only; omega, hW.f.l0, hW.f.l1⟩
        have hch : W.changedR E fr m = W.putR E { W.f with mask := m.seq, change := m.n } := by unfold WitM.changedR; rw [if_neg h1, if_neg h2, if_neg (by omega)]
        refine hr rfl (ev_move rfl) rfl ?_
        refine hr rfl (ev_move rfl) rfl ?_
        refine hr rfl (ev_nil rfl) rfl ?_
        refine hr rfl (ev_fieldAddr 1 rfl Tryz.underlying55 rfl Tryz.sizeOf2) rfl ?_
        refine hr rfl (ev_load rfl Tryz.isAgg2 zin rfl) rfl ?_
        refine hr rfl (ev_move rfl) rfl ?_
        refine hr rfl (ev_nil rfl) rfl ?_
        refine hr rfl (ev_fieldAddr 2 rfl Tryz.underlying55 rfl Tryz.sizeOf3) rfl ?_
        refine hr rfl (ev_load rfl Tryz.isAgg3 zin rfl) rfl ?_
        refine hr rfl (ev_fieldAddr 2 rfl Tryz.underlying37 rfl Tryz.sizeOf2) rfl ?_
        refine hr rfl (ev_load rfl Tryz.isAgg2 zin rfl) rfl ?_
        refine hr rfl (ev_fieldAddr 3 rfl Tryz.underlying37 rfl Tryz.sizeOf2) rfl ?_
        refine hr rfl (ev_load rfl Tryz.isAgg2 zin rfl) rfl ?_
        refine hr rfl (ev_move rfl) rfl ?_
        refine hr rfl (ev_nil rfl) rfl ?_
        refine hr rfl (ev_fieldAddr 5 rfl Tryz.underlying55 rfl Tryz.sizeOf53) rfl ?_
        refine hr rfl (ev_load rfl Tryz.isAgg53 zin rfl) rfl ?_
        refine hnil ?_
        refine ycall (xPut (W := W) (f := { W.f with mask := m.seq, change := m.n }) ?wok406 ?fok406 ?lv406) rfl Tryz.call83 ztk rfl ?_
        case wok406 => exact hW
        case fok406 => exact hfo
        case lv406 => exact ls_rd zin
        rintro v L' ⟨rfl, rfl⟩
        rw [show (if (W.putR E { W.f with mask := m.seq, change := m.n }).1 = 0 then lsV b else lsV b) = lsV b by split <;> rfl]
        refine y (ev_assign rfl) rfl ?_
        refine hnoP' (kthn (hK14 _ _ ?_))
        clear hK14
        refine cret ?_
        first
          | (exfalso; omega; done)
          | (refine kretv Tryz.results52 rfl (L1 := [sc s _ 55, sc b _ 2, rcelP c p _, rdev p la _] ++ R) zge ?_
             rw [hls.1, hls.2, hch]; exact ⟨_, ⟨rfl, rfl⟩, rfl⟩)
end W
end Go.Proofs
