/- A part of the proof: contracts and plain lemmas, each without conditions beyond those that it names. -/
import Derived.Test.YtebijajimmjknaaGreatY3
import Derived.Test.YtebijajimmjknaaGreatWitK
set_option linter.unusedVariables false
set_option linter.unusedSimpArgs false
set_option linter.constructorNameAsVariable false
namespace Go.Proofs
open Go Go.Sl
namespace W
set_option linter.unusedVariables false
theorem x11Within [Env] {R : List Seg} {n lo hi : Int} : Con Tryz.prog 81 [i64 n, i64 lo, i64 hi] [] R (Is (.bool (within3 n lo hi)) []) := by
 refine con_enter Tryz.func81 Tryz.ntmps81 rfl rfl ?_
 refine cseq ?_; intro K1 hK1
 refine creg ?_
 refine yas ?_
 refine ynil' (kthn (hK1 _ _ ?_))
 clear hK1
 refine cseq ?_; intro K2 hK2
 refine creg ?_
 refine ymv ?_
 refine ymv ?_
 refine y (ev_geq rfl rfl) rfl ?_
 refine ymv ?_
 refine ysplit 10 rfl (fun h6 => ?_) (fun h6 => ?_)
 ·(try simp only [sH] at h6)
  refine ygo ?_
  refine ymv ?_
  refine ygo ?_
  refine ymv ?_
  refine ygo ?_
  refine y (ev_leq rfl rfl) rfl ?_
  refine ypa ?_
  refine yas ?_
  refine ynil' (kthn (hK2 _ _ ?_))
  clear hK2
  refine cret ?_
  first
    | (exfalso; omega; done)
    | (refine kretv Tryz.results81 rfl (L1 := R) zge ?_
       exact ⟨_, ⟨by first | rfl | (simp [within3]; omega) | (simp [within3, *]; done), rfl⟩, by first | rfl | (simp [within3]; omega) | (simp [within3, *]; done)⟩)
 ·(try simp only [sH] at h6)
  refine ygz ?_
  refine ygz ?_
  refine ygz ?_
  refine ypb ?_
  refine yas ?_
  refine ynil' (kthn (hK2 _ _ ?_))
  clear hK2
  refine cret ?_
  first
    | (exfalso; omega; done)
    | (refine kretv Tryz.results81 rfl (L1 := R) zge ?_
       exact ⟨_, ⟨by first | rfl | (simp [within3]; omega) | (simp [within3, *]; done), rfl⟩, by first | rfl | (simp [within3]; omega) | (simp [within3, *]; done)⟩)
set_option maxHeartbeats 2000000 in
theorem x11May [Env] {R : List Seg} {m : MsgM} : Con Tryz.prog 50 [.agg m.cells.toArray] [] R (Is (.bool m.may) []) := by
 refine con_enter Tryz.func50 Tryz.ntmps50 rfl rfl ?_
 refine cseq ?_; intro K1 hK1
 refine creg ?_
 refine ya (ac_box (vs := m.cells) rfl rfl) rfl ?_
 rintro v L' ⟨b1, rfl, rfl⟩
 refine yas ?_
 refine ynil' (kthn (hK1 _ _ ?_))
 clear hK1
 refine cseq ?_; intro K2 hK2
 refine cseq ?_; intro K3 hK3
 refine creg ?_
 refine yas ?_
 refine ynil' (kthn (hK3 _ _ ?_))
 clear hK3
 have hJ1 : ∀ x : Nat, ((x ≤ 4 ∧ mayT m x) ∧ (x = 4)) → Sk 79 K2 ([(3, i64 x), (1, ptr b1)]) ([sc b1 m.cells 37] ++ R) := by
  rintro k ⟨hI1, hX1⟩
  refine hK2 _ _ ?_
  obtain ⟨hk, hok⟩ := hI1
  subst hX1; have hrest := may_rest hok
  refine cseq ?_; intro K4 hK4
  refine creg ?_
  refine y (ev_fieldAddr 0 rfl Tryz.underlying37 rfl Tryz.sizeOf3) rfl ?_
  refine y (ev_load rfl Tryz.isAgg3 zin rfl) rfl ?_
  refine y (ev_geq rfl rfl) rfl ?_
  refine ymv ?_
  refine ysplit 17 rfl (fun h21 => ?_) (fun h21 => ?_)
  ·(try simp only [sH] at h21)
   refine ygo ?_
   refine y (ev_fieldAddr 0 rfl Tryz.underlying37 rfl Tryz.sizeOf3) rfl ?_
   refine ygo ?_
   refine y (ev_load rfl Tryz.isAgg3 zin rfl) rfl ?_
   refine ygo ?_
   refine y (ev_leq rfl rfl) rfl ?_
   refine ypa ?_
   refine ymv ?_
   refine ysplit 22 rfl (fun h27 => ?_) (fun h27 => ?_)
   ·(try simp only [sH] at h27)
    refine ygo ?_
    refine y (ev_fieldAddr 1 rfl Tryz.underlying37 rfl Tryz.sizeOf2) rfl ?_
    refine ygo ?_
    refine y (ev_load rfl Tryz.isAgg2 zin rfl) rfl ?_
    refine ygo ?_
    refine ycall (x11Within) rfl Tryz.call81 ztk rfl ?_
    rintro v L' ⟨rfl, rfl⟩
    refine ypa ?_
    refine ymv ?_
    refine ysplit 27 rfl (fun h33 => ?_) (fun h33 => ?_)
    ·(try simp only [sH] at h33)
     refine ygo ?_
     refine y (ev_fieldAddr 2 rfl Tryz.underlying37 rfl Tryz.sizeOf2) rfl ?_
     refine ygo ?_
     refine y (ev_load rfl Tryz.isAgg2 zin rfl) rfl ?_
     refine ygo ?_
     refine ycall (x11Within) rfl Tryz.call81 ztk rfl ?_
     rintro v L' ⟨rfl, rfl⟩
     refine ypa ?_
     refine ymv ?_
     refine ysplit 32 rfl (fun h39 => ?_) (fun h39 => ?_)
     ·(try simp only [sH] at h39)
      refine ygo ?_
      refine y (ev_fieldAddr 3 rfl Tryz.underlying37 rfl Tryz.sizeOf2) rfl ?_
      refine ygo ?_
      refine y (ev_load rfl Tryz.isAgg2 zin rfl) rfl ?_
      refine ygo ?_
      refine ycall (x11Within) rfl Tryz.call81 ztk rfl ?_
      rintro v L' ⟨rfl, rfl⟩
      refine ypa ?_
      refine ymv ?_
      refine ysplit 37 rfl (fun h45 => ?_) (fun h45 => ?_)
      ·(try simp only [sH] at h45)
       refine ygo ?_
       refine y (ev_fieldAddr 4 rfl Tryz.underlying37 rfl Tryz.sizeOf3) rfl ?_
       refine ygo ?_
       refine y (ev_load rfl Tryz.isAgg3 zin rfl) rfl ?_
       refine ygo ?_
       refine y (ev_geq rfl rfl) rfl ?_
       refine ypa ?_
       refine ymv ?_
       refine ysplit 42 rfl (fun h51 => ?_) (fun h51 => ?_)
       ·(try simp only [sH] at h51)
        refine ygo ?_
        refine y (ev_fieldAddr 4 rfl Tryz.underlying37 rfl Tryz.sizeOf3) rfl ?_
        refine ygo ?_
        refine y (ev_load rfl Tryz.isAgg3 zin rfl) rfl ?_
        refine ygo ?_
        refine y (ev_leq rfl rfl) rfl ?_
        refine ypa ?_
        refine ymv ?_
        refine ysplit 47 rfl (fun h57 => ?_) (fun h57 => ?_)
        ·(try simp only [sH] at h57)
         refine ygo ?_
         refine y (ev_fieldAddr 5 rfl Tryz.underlying37 rfl Tryz.sizeOf3) rfl ?_
         refine ygo ?_
         refine y (ev_load rfl Tryz.isAgg3 zin rfl) rfl ?_
         refine ygo ?_
         refine y (ev_geq rfl rfl) rfl ?_
         refine ypa ?_
         refine ymv ?_
         refine ysplit 52 rfl (fun h63 => ?_) (fun h63 => ?_)
         ·(try simp only [sH] at h63)
          refine ygo ?_
          refine y (ev_fieldAddr 5 rfl Tryz.underlying37 rfl Tryz.sizeOf3) rfl ?_
          refine ygo ?_
          refine y (ev_load rfl Tryz.isAgg3 zin rfl) rfl ?_
          refine ygo ?_
          refine y (ev_leq rfl rfl) rfl ?_
          refine ypa ?_
          refine ymv ?_
          refine ysplit 57 rfl (fun h69 => ?_) (fun h69 => ?_)
          ·(try simp only [sH] at h69)
           refine ygo ?_
           refine y (ev_fieldAddr 6 rfl Tryz.underlying37 rfl Tryz.sizeOf29) rfl ?_
           refine ygo ?_
           refine y (ev_load rfl Tryz.isAgg29 zin rfl) rfl ?_
           refine ygo ?_
           refine y (ev_geq rfl rfl) rfl ?_
           refine ypa ?_
           refine ymv ?_
           refine ysplit 62 rfl (fun h75 => ?_) (fun h75 => ?_)
           ·(try simp only [sH] at h75)
            refine ygo ?_
            refine y (ev_fieldAddr 6 rfl Tryz.underlying37 rfl Tryz.sizeOf29) rfl ?_
            refine ygo ?_
            refine y (ev_load rfl Tryz.isAgg29 zin rfl) rfl ?_
            refine ygo ?_
            refine y (ev_leq rfl rfl) rfl ?_
            refine ypa ?_
            refine ymv ?_
            refine ysplit 67 rfl (fun h81 => ?_) (fun h81 => ?_)
            ·(try simp only [sH] at h81)
             refine ygo ?_
             refine y (ev_fieldAddr 11 rfl Tryz.underlying37 rfl Tryz.sizeOf9) rfl ?_
             refine ygo ?_
             refine y (ev_load rfl Tryz.isAgg9 zin rfl) rfl ?_
             refine ygo ?_
             first
               | refine y (ev_lenStr rfl Tryz.underlying9) rfl ?_
               | refine y (ev_lenS rfl Tryz.underlying9) rfl ?_
             refine ygo ?_
             refine y (ev_leq rfl rfl) rfl ?_
             refine ypa ?_
             refine ymv ?_
             refine ysplit 73 rfl (fun h88 => ?_) (fun h88 => ?_)
             ·(try simp only [sH] at h88)
              refine ygo ?_
              refine y (ev_fieldAddr 12 rfl Tryz.underlying37 rfl Tryz.sizeOf9) rfl ?_
              refine ygo ?_
              refine y (ev_load rfl Tryz.isAgg9 zin rfl) rfl ?_
              refine ygo ?_
              first
                | refine y (ev_lenStr rfl Tryz.underlying9) rfl ?_
                | refine y (ev_lenS rfl Tryz.underlying9) rfl ?_
              refine ygo ?_
              refine y (ev_leq rfl rfl) rfl ?_
              refine ypa ?_
              refine yas ?_
              refine ynil' (kthn (hK4 _ _ ?_))
              clear hK4
              refine cret ?_
              first
                | (exfalso; omega; done)
                | (refine kretv Tryz.results50 rfl (L1 := R) zge ?_
                   exact ⟨_, ⟨by first | rfl | (rw [hno]; done) | (rw [hrest]; (try simp only [within3, Bool.and_eq_true, Bool.and_eq_false_iff, decide_eq_true_eq, decide_eq_false_iff_not] at *); congr 1; first | (symm; rw [decide_eq_false_iff_not]; omega) | (rw [decide_eq_decide]; omega)), rfl⟩, by first | rfl | (rw [hno]; done) | (rw [hrest]; (try simp only [within3, Bool.and_eq_true, Bool.and_eq_false_iff, decide_eq_true_eq, decide_eq_false_iff_not] at *); congr 1; first | (symm; rw [decide_eq_false_iff_not]; omega) | (rw [decide_eq_decide]; omega))⟩)
             ·(try simp only [sH] at h88)
              refine ygz ?_
              refine ygz ?_
              refine ygz ?_
              refine ygz ?_
              refine ypb ?_
              refine yas ?_
              refine ynil' (kthn (hK4 _ _ ?_))
              clear hK4
              refine cret ?_
              first
                | (exfalso; omega; done)
                | (refine kretv Tryz.results50 rfl (L1 := R) zge ?_
                   exact ⟨_, ⟨by first | rfl | (rw [hno]; done) | (rw [hrest]; (try simp only [within3, Bool.and_eq_true, Bool.and_eq_false_iff, decide_eq_true_eq, decide_eq_false_iff_not] at *); congr 1; first | (symm; rw [decide_eq_false_iff_not]; omega) | (rw [decide_eq_decide]; omega)), rfl⟩, by first | rfl | (rw [hno]; done) | (rw [hrest]; (try simp only [within3, Bool.and_eq_true, Bool.and_eq_false_iff, decide_eq_true_eq, decide_eq_false_iff_not] at *); congr 1; first | (symm; rw [decide_eq_false_iff_not]; omega) | (rw [decide_eq_decide]; omega))⟩)
            ·(try simp only [sH] at h81)
             refine ygz ?_
             refine ygz ?_
             refine ygz ?_
             refine ygz ?_
             refine ypb ?_
             refine ymv ?_
             refine ygz ?_
             refine ygz ?_
             refine ygz ?_
             refine ygz ?_
             refine ypb ?_
             refine yas ?_
             refine ynil' (kthn (hK4 _ _ ?_))
             clear hK4
             refine cret ?_
             first
               | (exfalso; omega; done)
               | (refine kretv Tryz.results50 rfl (L1 := R) zge ?_
                  exact ⟨_, ⟨by first | rfl | (rw [hno]; done) | (rw [hrest]; (try simp only [within3, Bool.and_eq_true, Bool.and_eq_false_iff, decide_eq_true_eq, decide_eq_false_iff_not] at *); congr 1; first | (symm; rw [decide_eq_false_iff_not]; omega) | (rw [decide_eq_decide]; omega)), rfl⟩, by first | rfl | (rw [hno]; done) | (rw [hrest]; (try simp only [within3, Bool.and_eq_true, Bool.and_eq_false_iff, decide_eq_true_eq, decide_eq_false_iff_not] at *); congr 1; first | (symm; rw [decide_eq_false_iff_not]; omega) | (rw [decide_eq_decide]; omega))⟩)
           ·(try simp only [sH] at h75)
            refine ygz ?_
            refine ygz ?_
            refine ygz ?_
            refine ypb ?_
            refine ymv ?_
            refine ygz ?_
            refine ygz ?_
            refine ygz ?_
            refine ygz ?_
            refine ypb ?_
            refine ymv ?_
            refine ygz ?_
            refine ygz ?_
            refine ygz ?_
            refine ygz ?_
            refine ypb ?_
            refine yas ?_
            refine ynil' (kthn (hK4 _ _ ?_))
            clear hK4
            refine cret ?_
            first
              | (exfalso; omega; done)
              | (refine kretv Tryz.results50 rfl (L1 := R) zge ?_
                 exact ⟨_, ⟨by first | rfl | (rw [hno]; done) | (rw [hrest]; (try simp only [within3, Bool.and_eq_true, Bool.and_eq_false_iff, decide_eq_true_eq, decide_eq_false_iff_not] at *); congr 1; first | (symm; rw [decide_eq_false_iff_not]; omega) | (rw [decide_eq_decide]; omega)), rfl⟩, by first | rfl | (rw [hno]; done) | (rw [hrest]; (try simp only [within3, Bool.and_eq_true, Bool.and_eq_false_iff, decide_eq_true_eq, decide_eq_false_iff_not] at *); congr 1; first | (symm; rw [decide_eq_false_iff_not]; omega) | (rw [decide_eq_decide]; omega))⟩)
          ·(try simp only [sH] at h69)
           refine ygz ?_
           refine ygz ?_
           refine ygz ?_
           refine ypb ?_
           refine ymv ?_
           refine ygz ?_
           refine ygz ?_
           refine ygz ?_
           refine ypb ?_
           refine ymv ?_
           refine ygz ?_
           refine ygz ?_
           refine ygz ?_
           refine ygz ?_
           refine ypb ?_
           refine ymv ?_
           refine ygz ?_
           refine ygz ?_
           refine ygz ?_
           refine ygz ?_
           refine ypb ?_
           refine yas ?_
           refine ynil' (kthn (hK4 _ _ ?_))
           clear hK4
           refine cret ?_
           first
             | (exfalso; omega; done)
             | (refine kretv Tryz.results50 rfl (L1 := R) zge ?_
                exact ⟨_, ⟨by first | rfl | (rw [hno]; done) | (rw [hrest]; (try simp only [within3, Bool.and_eq_true, Bool.and_eq_false_iff, decide_eq_true_eq, decide_eq_false_iff_not] at *); congr 1; first | (symm; rw [decide_eq_false_iff_not]; omega) | (rw [decide_eq_decide]; omega)), rfl⟩, by first | rfl | (rw [hno]; done) | (rw [hrest]; (try simp only [within3, Bool.and_eq_true, Bool.and_eq_false_iff, decide_eq_true_eq, decide_eq_false_iff_not] at *); congr 1; first | (symm; rw [decide_eq_false_iff_not]; omega) | (rw [decide_eq_decide]; omega))⟩)
         ·(try simp only [sH] at h63)
          refine ygz ?_
          refine ygz ?_
          refine ygz ?_
          refine ypb ?_
          refine ymv ?_
          refine ygz ?_
          refine ygz ?_
          refine ygz ?_
          refine ypb ?_
          refine ymv ?_
          refine ygz ?_
          refine ygz ?_
          refine ygz ?_
          refine ypb ?_
          refine ymv ?_
          refine ygz ?_
          refine ygz ?_
          refine ygz ?_
          refine ygz ?_
          refine ypb ?_
          refine ymv ?_
          refine ygz ?_
          refine ygz ?_
          refine ygz ?_
          refine ygz ?_
          refine ypb ?_
          refine yas ?_
          refine ynil' (kthn (hK4 _ _ ?_))
          clear hK4
          refine cret ?_
          first
            | (exfalso; omega; done)
            | (refine kretv Tryz.results50 rfl (L1 := R) zge ?_
               exact ⟨_, ⟨by first | rfl | (rw [hno]; done) | (rw [hrest]; (try simp only [within3, Bool.and_eq_true, Bool.and_eq_false_iff, decide_eq_true_eq, decide_eq_false_iff_not] at *); congr 1; first | (symm; rw [decide_eq_false_iff_not]; omega) | (rw [decide_eq_decide]; omega)), rfl⟩, by first | rfl | (rw [hno]; done) | (rw [hrest]; (try simp only [within3, Bool.and_eq_true, Bool.and_eq_false_iff, decide_eq_true_eq, decide_eq_false_iff_not] at *); congr 1; first | (symm; rw [decide_eq_false_iff_not]; omega) | (rw [decide_eq_decide]; omega))⟩)
        ·(try simp only [sH] at h57)
         refine ygz ?_
         refine ygz ?_
         refine ygz ?_
         refine ypb ?_
         refine ymv ?_
         refine ygz ?_
         refine ygz ?_
         refine ygz ?_
         refine ypb ?_
         refine ymv ?_
         refine ygz ?_
         refine ygz ?_
         refine ygz ?_
         refine ypb ?_
         refine ymv ?_
         refine ygz ?_
         refine ygz ?_
         refine ygz ?_
         refine ypb ?_
         refine ymv ?_
         refine ygz ?_
         refine ygz ?_
         refine ygz ?_
         refine ygz ?_
         refine ypb ?_
         refine ymv ?_
         refine ygz ?_
         refine ygz ?_
         refine ygz ?_
         refine ygz ?_
         refine ypb ?_
         refine yas ?_
         refine ynil' (kthn (hK4 _ _ ?_))
         clear hK4
         refine cret ?_
         first
           | (exfalso; omega; done)
           | (refine kretv Tryz.results50 rfl (L1 := R) zge ?_
              exact ⟨_, ⟨by first | rfl | (rw [hno]; done) | (rw [hrest]; (try simp only [within3, Bool.and_eq_true, Bool.and_eq_false_iff, decide_eq_true_eq, decide_eq_false_iff_not] at *); congr 1; first | (symm; rw [decide_eq_false_iff_not]; omega) | (rw [decide_eq_decide]; omega)), rfl⟩, by first | rfl | (rw [hno]; done) | (rw [hrest]; (try simp only [within3, Bool.and_eq_true, Bool.and_eq_false_iff, decide_eq_true_eq, decide_eq_false_iff_not] at *); congr 1; first | (symm; rw [decide_eq_false_iff_not]; omega) | (rw [decide_eq_decide]; omega))⟩)
       ·(try simp only [sH] at h51)
        refine ygz ?_
        refine ygz ?_
        refine ygz ?_
        refine ypb ?_
        refine ymv ?_
        refine ygz ?_
        refine ygz ?_
        refine ygz ?_
        refine ypb ?_
        refine ymv ?_
        refine ygz ?_
        refine ygz ?_
        refine ygz ?_
        refine ypb ?_
        refine ymv ?_
        refine ygz ?_
        refine ygz ?_
        refine ygz ?_
        refine ypb ?_
        refine ymv ?_
        refine ygz ?_
        refine ygz ?_
        refine ygz ?_
        refine ypb ?_
        refine ymv ?_
        refine ygz ?_
        refine ygz ?_
        refine ygz ?_
        refine ygz ?_
        refine ypb ?_
        refine ymv ?_
        refine ygz ?_
        refine ygz ?_
        refine ygz ?_
        refine ygz ?_
        refine ypb ?_
        refine yas ?_
        refine ynil' (kthn (hK4 _ _ ?_))
        clear hK4
        refine cret ?_
        first
          | (exfalso; omega; done)
          | (refine kretv Tryz.results50 rfl (L1 := R) zge ?_
             exact ⟨_, ⟨by first | rfl | (rw [hno]; done) | (rw [hrest]; (try simp only [within3, Bool.and_eq_true, Bool.and_eq_false_iff, decide_eq_true_eq, decide_eq_false_iff_not] at *); congr 1; first | (symm; rw [decide_eq_false_iff_not]; omega) | (rw [decide_eq_decide]; omega)), rfl⟩, by first | rfl | (rw [hno]; done) | (rw [hrest]; (try simp only [within3, Bool.and_eq_true, Bool.and_eq_false_iff, decide_eq_true_eq, decide_eq_false_iff_not] at *); congr 1; first | (symm; rw [decide_eq_false_iff_not]; omega) | (rw [decide_eq_decide]; omega))⟩)
      ·(try simp only [sH] at h45)
       refine ygz ?_
       refine ygz ?_
       refine ygz ?_
       refine ypb ?_
       refine ymv ?_
       refine ygz ?_
       refine ygz ?_
       refine ygz ?_
       refine ypb ?_
       refine ymv ?_
       refine ygz ?_
       refine ygz ?_
       refine ygz ?_
       refine ypb ?_
       refine ymv ?_
       refine ygz ?_
       refine ygz ?_
       refine ygz ?_
       refine ypb ?_
       refine ymv ?_
       refine ygz ?_
       refine ygz ?_
       refine ygz ?_
       refine ypb ?_
       refine ymv ?_
       refine ygz ?_
       refine ygz ?_
       refine ygz ?_
       refine ypb ?_
       refine ymv ?_
       refine ygz ?_
       refine ygz ?_
       refine ygz ?_
       refine ygz ?_
       refine ypb ?_
       refine ymv ?_
       refine ygz ?_
       refine ygz ?_
       refine ygz ?_
       refine ygz ?_
       refine ypb ?_
       refine yas ?_
       refine ynil' (kthn (hK4 _ _ ?_))
       clear hK4
       refine cret ?_
       first
         | (exfalso; omega; done)
         | (refine kretv Tryz.results50 rfl (L1 := R) zge ?_
            exact ⟨_, ⟨by first | rfl | (rw [hno]; done) | (rw [hrest]; (try simp only [within3, Bool.and_eq_true, Bool.and_eq_false_iff, decide_eq_true_eq, decide_eq_false_iff_not] at *); congr 1; first | (symm; rw [decide_eq_false_iff_not]; omega) | (rw [decide_eq_decide]; omega)), rfl⟩, by first | rfl | (rw [hno]; done) | (rw [hrest]; (try simp only [within3, Bool.and_eq_true, Bool.and_eq_false_iff, decide_eq_true_eq, decide_eq_false_iff_not] at *); congr 1; first | (symm; rw [decide_eq_false_iff_not]; omega) | (rw [decide_eq_decide]; omega))⟩)
     ·(try simp only [sH] at h39)
      refine ygz ?_
      refine ygz ?_
      refine ygz ?_
      refine ypb ?_
      refine ymv ?_
      refine ygz ?_
      refine ygz ?_
      refine ygz ?_
      refine ypb ?_
      refine ymv ?_
      refine ygz ?_
      refine ygz ?_
      refine ygz ?_
      refine ypb ?_
      refine ymv ?_
      refine ygz ?_
      refine ygz ?_
      refine ygz ?_
      refine ypb ?_
      refine ymv ?_
      refine ygz ?_
      refine ygz ?_
      refine ygz ?_
      refine ypb ?_
      refine ymv ?_
      refine ygz ?_
      refine ygz ?_
      refine ygz ?_
      refine ypb ?_
      refine ymv ?_
      refine ygz ?_
      refine ygz ?_
      refine ygz ?_
      refine ypb ?_
      refine ymv ?_
      refine ygz ?_
      refine ygz ?_
      refine ygz ?_
      refine ygz ?_
      refine ypb ?_
      refine ymv ?_
      refine ygz ?_
      refine ygz ?_
      refine ygz ?_
      refine ygz ?_
      refine ypb ?_
      refine yas ?_
      refine ynil' (kthn (hK4 _ _ ?_))
      clear hK4
      refine cret ?_
      first
        | (exfalso; omega; done)
        | (refine kretv Tryz.results50 rfl (L1 := R) zge ?_
           exact ⟨_, ⟨by first | rfl | (rw [hno]; done) | (rw [hrest]; (try simp only [within3, Bool.and_eq_true, Bool.and_eq_false_iff, decide_eq_true_eq, decide_eq_false_iff_not] at *); congr 1; first | (symm; rw [decide_eq_false_iff_not]; omega) | (rw [decide_eq_decide]; omega)), rfl⟩, by first | rfl | (rw [hno]; done) | (rw [hrest]; (try simp only [within3, Bool.and_eq_true, Bool.and_eq_false_iff, decide_eq_true_eq, decide_eq_false_iff_not] at *); congr 1; first | (symm; rw [decide_eq_false_iff_not]; omega) | (rw [decide_eq_decide]; omega))⟩)
    ·(try simp only [sH] at h33)
     refine ygz ?_
     refine ygz ?_
     refine ygz ?_
     refine ypb ?_
     refine ymv ?_
     refine ygz ?_
     refine ygz ?_
     refine ygz ?_
     refine ypb ?_
     refine ymv ?_
     refine ygz ?_
     refine ygz ?_
     refine ygz ?_
     refine ypb ?_
     refine ymv ?_
     refine ygz ?_
     refine ygz ?_
     refine ygz ?_
     refine ypb ?_
     refine ymv ?_
     refine ygz ?_
     refine ygz ?_
     refine ygz ?_
     refine ypb ?_
     refine ymv ?_
     refine ygz ?_
     refine ygz ?_
     refine ygz ?_
     refine ypb ?_
     refine ymv ?_
     refine ygz ?_
     refine ygz ?_
     refine ygz ?_
     refine ypb ?_
     refine ymv ?_
     refine ygz ?_
     refine ygz ?_
     refine ygz ?_
     refine ypb ?_
     refine ymv ?_
     refine ygz ?_
     refine ygz ?_
     refine ygz ?_
     refine ygz ?_
     refine ypb ?_
     refine ymv ?_
     refine ygz ?_
     refine ygz ?_
     refine ygz ?_
     refine ygz ?_
     refine ypb ?_
     refine yas ?_
     refine ynil' (kthn (hK4 _ _ ?_))
     clear hK4
     refine cret ?_
     first
       | (exfalso; omega; done)
       | (refine kretv Tryz.results50 rfl (L1 := R) zge ?_
          exact ⟨_, ⟨by first | rfl | (rw [hno]; done) | (rw [hrest]; (try simp only [within3, Bool.and_eq_true, Bool.and_eq_false_iff, decide_eq_true_eq, decide_eq_false_iff_not] at *); congr 1; first | (symm; rw [decide_eq_false_iff_not]; omega) | (rw [decide_eq_decide]; omega)), rfl⟩, by first | rfl | (rw [hno]; done) | (rw [hrest]; (try simp only [within3, Bool.and_eq_true, Bool.and_eq_false_iff, decide_eq_true_eq, decide_eq_false_iff_not] at *); congr 1; first | (symm; rw [decide_eq_false_iff_not]; omega) | (rw [decide_eq_decide]; omega))⟩)
   ·(try simp only [sH] at h27)
    refine ygz ?_
    refine ygz ?_
    refine ygz ?_
    refine ypb ?_
    refine ymv ?_
    refine ygz ?_
    refine ygz ?_
    refine ygz ?_
    refine ypb ?_
    refine ymv ?_
    refine ygz ?_
    refine ygz ?_
    refine ygz ?_
    refine ypb ?_
    refine ymv ?_
    refine ygz ?_
    refine ygz ?_
    refine ygz ?_
    refine ypb ?_
    refine ymv ?_
    refine ygz ?_
    refine ygz ?_
    refine ygz ?_
    refine ypb ?_
    refine ymv ?_
    refine ygz ?_
    refine ygz ?_
    refine ygz ?_
    refine ypb ?_
    refine ymv ?_
    refine ygz ?_
    refine ygz ?_
    refine ygz ?_
    refine ypb ?_
    refine ymv ?_
    refine ygz ?_
    refine ygz ?_
    refine ygz ?_
    refine ypb ?_
    refine ymv ?_
    refine ygz ?_
    refine ygz ?_
    refine ygz ?_
    refine ypb ?_
    refine ymv ?_
    refine ygz ?_
    refine ygz ?_
    refine ygz ?_
    refine ygz ?_
    refine ypb ?_
    refine ymv ?_
    refine ygz ?_
    refine ygz ?_
    refine ygz ?_
    refine ygz ?_
    refine ypb ?_
    refine yas ?_
    refine ynil' (kthn (hK4 _ _ ?_))
    clear hK4
    refine cret ?_
    first
      | (exfalso; omega; done)
      | (refine kretv Tryz.results50 rfl (L1 := R) zge ?_
         exact ⟨_, ⟨by first | rfl | (rw [hno]; done) | (rw [hrest]; (try simp only [within3, Bool.and_eq_true, Bool.and_eq_false_iff, decide_eq_true_eq, decide_eq_false_iff_not] at *); congr 1; first | (symm; rw [decide_eq_false_iff_not]; omega) | (rw [decide_eq_decide]; omega)), rfl⟩, by first | rfl | (rw [hno]; done) | (rw [hrest]; (try simp only [within3, Bool.and_eq_true, Bool.and_eq_false_iff, decide_eq_true_eq, decide_eq_false_iff_not] at *); congr 1; first | (symm; rw [decide_eq_false_iff_not]; omega) | (rw [decide_eq_decide]; omega))⟩)
  ·(try simp only [sH] at h21)
   refine ygz ?_
   refine ygz ?_
   refine ygz ?_
   refine ypb ?_
   refine ymv ?_
   refine ygz ?_
   refine ygz ?_
   refine ygz ?_
   refine ypb ?_
   refine ymv ?_
   refine ygz ?_
   refine ygz ?_
   refine ygz ?_
   refine ypb ?_
   refine ymv ?_
   refine ygz ?_
   refine ygz ?_
   refine ygz ?_
   refine ypb ?_
   refine ymv ?_
   refine ygz ?_
   refine ygz ?_
   refine ygz ?_
   refine ypb ?_
   refine ymv ?_
   refine ygz ?_
   refine ygz ?_
   refine ygz ?_
   refine ypb ?_
   refine ymv ?_
   refine ygz ?_
   refine ygz ?_
   refine ygz ?_
   refine ypb ?_
   refine ymv ?_
   refine ygz ?_
   refine ygz ?_
   refine ygz ?_
   refine ypb ?_
   refine ymv ?_
   refine ygz ?_
   refine ygz ?_
   refine ygz ?_
   refine ypb ?_
   refine ymv ?_
   refine ygz ?_
   refine ygz ?_
   refine ygz ?_
   refine ypb ?_
   refine ymv ?_
   refine ygz ?_
   refine ygz ?_
   refine ygz ?_
   refine ygz ?_
   refine ypb ?_
   refine ymv ?_
   refine ygz ?_
   refine ygz ?_
   refine ygz ?_
   refine ygz ?_
   refine ypb ?_
   refine yas ?_
   refine ynil' (kthn (hK4 _ _ ?_))
   clear hK4
   refine cret ?_
   first
     | (exfalso; omega; done)
     | (refine kretv Tryz.results50 rfl (L1 := R) zge ?_
        exact ⟨_, ⟨by first | rfl | (rw [hno]; done) | (rw [hrest]; (try simp only [within3, Bool.and_eq_true, Bool.and_eq_false_iff, decide_eq_true_eq, decide_eq_false_iff_not] at *); congr 1; first | (symm; rw [decide_eq_false_iff_not]; omega) | (rw [decide_eq_decide]; omega)), rfl⟩, by first | rfl | (rw [hno]; done) | (rw [hrest]; (try simp only [within3, Bool.and_eq_true, Bool.and_eq_false_iff, decide_eq_true_eq, decide_eq_false_iff_not] at *); congr 1; first | (symm; rw [decide_eq_false_iff_not]; omega) | (rw [decide_eq_decide]; omega))⟩)
 clear hK2
 refine cblock ?_
 refine cloop (A := Nat) (fun x => [(3, i64 x), (1, ptr b1)]) (fun x => [sc b1 m.cells 37] ++ R) (fun x => x ≤ 4 ∧ mayT m x) (fun x => 4 - x) (0) ?_ zsub zge ?_
 · exact ⟨Nat.zero_le _, mayT_zero m⟩
 rintro k hI1 KL1 hL1
 have hI1o := hI1
 obtain ⟨hk, hok⟩ := hI1
 refine cseq ?_; intro K5 hK5
 refine cseq ?_; intro K6 hK6
 refine creg ?_
 refine ymv ?_
 refine y (ev_lss rfl rfl) rfl ?_
 refine ynil' (kthn (hK6 _ _ ?_))
 clear hK6
 refine ccond rfl (fun h253 => ?_) (fun h253 => ?_)
 ·(try simp only [sH] at h253)
  refine cskip' (kthn (hK5 _ _ ?_))
  clear hK5
  refine cseq ?_; intro K7 hK7
  refine cblock ?_
  refine cseq ?_; intro K8 hK8
  refine creg ?_
  refine ymv ?_
  refine y (ev_fieldAddr 7 rfl Tryz.underlying37 rfl Tryz.sizeOf35) rfl ?_
  refine y (ev_ixAddrA rfl rfl Tryz.underlying35 Tryz.sizeOf2 (by omega) (by omega)) rfl ?_
  refine y (ev_load rfl Tryz.isAgg2 zin (msg_tn m (by omega))) rfl ?_
  refine ycall (x11Within) rfl Tryz.call81 ztk rfl ?_
  rintro v L' ⟨rfl, rfl⟩
  refine y (ev_not rfl) rfl ?_
  refine ynil' (kthn (hK8 _ _ ?_))
  clear hK8
  refine ccond rfl (fun h260 => ?_) (fun h260 => ?_)
  ·(try simp only [sH] at h260)
   refine cseq ?_; intro K9 hK9
   refine creg ?_
   have hno : m.may = false := mayT_no (k := k) (by omega) (w3f (by assumption))
   refine yas ?_
   refine ynil' (kthn (hK9 _ _ ?_))
   clear hK9
   refine cret (kbr (kthr (kthr (kbr (kthr ?_)))))
   first
     | (exfalso; omega; done)
     | (refine kretv Tryz.results50 rfl (L1 := R) zge ?_
        exact ⟨_, ⟨by first | rfl | (rw [hno]; done) | (rw [hrest]; (try simp only [within3, Bool.and_eq_true, Bool.and_eq_false_iff, decide_eq_true_eq, decide_eq_false_iff_not] at *); congr 1; first | (symm; rw [decide_eq_false_iff_not]; omega) | (rw [decide_eq_decide]; omega)), rfl⟩, by first | rfl | (rw [hno]; done) | (rw [hrest]; (try simp only [within3, Bool.and_eq_true, Bool.and_eq_false_iff, decide_eq_true_eq, decide_eq_false_iff_not] at *); congr 1; first | (symm; rw [decide_eq_false_iff_not]; omega) | (rw [decide_eq_decide]; omega))⟩)
  ·(try simp only [sH] at h260)
   refine cskip' (kbn (kthn (hK7 _ _ ?_)))
   clear hK7
   refine creg ?_
   have hok2 : mayT m (k + 1) := mayT_succ hok (within3_iff.1 (by assumption))
   refine ymv ?_
   refine y (ev_add rfl rfl) rfl ?_
   rw [show IntKind.i64.wrap ((k:Int) + 1) = ((k+1 : Nat) : Int) by rw [wr (by omega) (by omega)]; rfl]
   refine yas ?_
   refine ynil' (kthn ?_)
   exact hL1 (k + 1) (⟨by omega, hok2⟩) (by omega) _ _ zsub zge
 ·(try simp only [sH] at h253)
  refine cexit (kthx (kthx (kbx (kthn ?_))))
  exact ksub zsub zge (hJ1 k ⟨hI1o, by omega⟩)
end W
end Go.Proofs
