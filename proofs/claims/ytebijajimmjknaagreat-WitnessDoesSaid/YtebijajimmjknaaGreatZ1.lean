/- A part of the proof: contracts and plain lemmas, each without conditions beyond those that it names. -/
import Derived.Test.YtebijajimmjknaaGreatY3
import Derived.Test.YtebijajimmjknaaGreatW5
import Derived.Test.YtebijajimmjknaaGreatWitK
set_option linter.unusedVariables false
set_option linter.unusedSimpArgs false
set_option linter.constructorNameAsVariable false
namespace Go.Proofs
open Go Go.Sl
namespace W
set_option linter.unusedVariables false
theorem x11Within [Env] {R : List Seg} {n lo hi : Int} : Con Tryz.prog 81 [i64 n, i64 lo, i64 hi] [] R (Is (.bool (within3 n lo hi)) []) := by
  refine con_enter Tryz.func81 Tryz.ntmps81 rfl rfl ?_
  refine cseq ?_; intro K1 hK1
  refine creg ?_
  refine y (ev_assign rfl) rfl ?_
  refine ynil' (kthn (hK1 _ _ ?_))
  clear hK1
  refine cseq ?_; intro K2 hK2
  refine creg ?_
  refine y (ev_move rfl) rfl ?_
  refine y (ev_move rfl) rfl ?_
  refine y (ev_geq rfl rfl) rfl ?_
  refine y (ev_move rfl) rfl ?_
  refine ysplit 10 rfl (fun h6 => ?_) (fun h6 => ?_)
  ·(try simp only [sH] at h6)
   refine yg1 rfl rfl ?_
   refine y (ev_move rfl) rfl ?_
   refine yg1 rfl rfl ?_
   refine y (ev_move rfl) rfl ?_
   refine yg1 rfl rfl ?_
   refine y (ev_leq rfl rfl) rfl ?_
   refine y (ev_pick1 rfl rfl) rfl ?_
   refine y (ev_assign rfl) rfl ?_
   refine ynil' (kthn (hK2 _ _ ?_))
   clear hK2
   refine cret ?_
   first
     | (exfalso; omega; done)
     | (refine kretv Tryz.results81 rfl (L1 := R) zge ?_
        exact ⟨_, ⟨by first | rfl | (simp [within3]; omega) | (simp [within3, *]; done), rfl⟩, by first | rfl | (simp [within3]; omega) | (simp [within3, *]; done)⟩)
  ·(try simp only [sH] at h6)
   refine yg0 rfl rfl rfl rfl ?_
   refine yg0 rfl rfl rfl rfl ?_
   refine yg0 rfl rfl rfl rfl ?_
   refine y (ev_pick0 rfl rfl) rfl ?_
   refine y (ev_assign rfl) rfl ?_
   refine ynil' (kthn (hK2 _ _ ?_))
   clear hK2
   refine cret ?_
   first
     | (exfalso; omega; done)
     | (refine kretv Tryz.results81 rfl (L1 := R) zge ?_
        exact ⟨_, ⟨by first | rfl | (simp [within3]; omega) | (simp [within3, *]; done), rfl⟩, by first | rfl | (simp [within3]; omega) | (simp [within3, *]; done)⟩)
set_option maxHeartbeats 2000000 in
theorem x11May [Env] {R : List Seg} {m : MsgM} : Con Tryz.prog 50 [.agg m.cells.toArray] [] R (Is (.bool m.may) []) := by
  refine con_enter Tryz.func50 Tryz.ntmps50 rfl rfl ?_
  refine cseq ?_; intro K1 hK1
  refine creg ?_
  refine ya (ac_box (vs := m.cells) rfl rfl) rfl ?_
  rintro v L' ⟨b1, rfl, rfl⟩
  refine y (ev_assign rfl) rfl ?_
  refine ynil' (kthn (hK1 _ _ ?_))
  clear hK1
  refine cseq ?_; intro K2 hK2
  refine cseq ?_; intro K3 hK3
  refine creg ?_
  refine y (ev_assign rfl) rfl ?_
  refine ynil' (kthn (hK3 _ _ ?_))
  clear hK3
  have hJ1 : ∀ x : Nat, ((x ≤ 4 ∧ mayT m x) ∧ (x = 4)) → Sk 79 K2 ([(3, i64 x), (1, ptr b1)]) ([sc b1 m.cells 37] ++ R) := by
   rintro k ⟨hI1, hX1⟩
   refine hK2 _ _ ?_
   obtain ⟨hk, hok⟩ := hI1
   subst hX1; have hrest := may_rest hok
   refine cseq ?_; intro K4 hK4
   refine creg ?_
   refine y (ev_fieldAddr 0 rfl Tryz.underlying37 rfl Tryz.sizeOf3) rfl ?_
   refine y (ev_load rfl Tryz.isAgg3 zin rfl) rfl ?_
   refine y (ev_geq rfl rfl) rfl ?_
   refine y (ev_move rfl) rfl ?_
   refine ysplit 17 rfl (fun h21 => ?_) (fun h21 => ?_)
   ·(try simp only [sH] at h21)
    refine yg1 rfl rfl ?_
    refine y (ev_fieldAddr 0 rfl Tryz.underlying37 rfl Tryz.sizeOf3) rfl ?_
    refine yg1 rfl rfl ?_
    refine y (ev_load rfl Tryz.isAgg3 zin rfl) rfl ?_
    refine yg1 rfl rfl ?_
    refine y (ev_leq rfl rfl) rfl ?_
    refine y (ev_pick1 rfl rfl) rfl ?_
    refine y (ev_move rfl) rfl ?_
    refine ysplit 22 rfl (fun h27 => ?_) (fun h27 => ?_)
    ·(try simp only [sH] at h27)
     refine yg1 rfl rfl ?_
     refine y (ev_fieldAddr 1 rfl Tryz.underlying37 rfl Tryz.sizeOf2) rfl ?_
     refine yg1 rfl rfl ?_
     refine y (ev_load rfl Tryz.isAgg2 zin rfl) rfl ?_
     refine yg1 rfl rfl ?_
     refine ycall (x11Within) rfl Tryz.call81 ztk rfl ?_
     rintro v L' ⟨rfl, rfl⟩
     refine y (ev_pick1 rfl rfl) rfl ?_
     refine y (ev_move rfl) rfl ?_
     refine ysplit 27 rfl (fun h33 => ?_) (fun h33 => ?_)
     ·(try simp only [sH] at h33)
      refine yg1 rfl rfl ?_
      refine y (ev_fieldAddr 2 rfl Tryz.underlying37 rfl Tryz.sizeOf2) rfl ?_
      refine yg1 rfl rfl ?_
      refine y (ev_load rfl Tryz.isAgg2 zin rfl) rfl ?_
      refine yg1 rfl rfl ?_
      refine ycall (x11Within) rfl Tryz.call81 ztk rfl ?_
      rintro v L' ⟨rfl, rfl⟩
      refine y (ev_pick1 rfl rfl) rfl ?_
      refine y (ev_move rfl) rfl ?_
      refine ysplit 32 rfl (fun h39 => ?_) (fun h39 => ?_)
      ·(try simp only [sH] at h39)
       refine yg1 rfl rfl ?_
       refine y (ev_fieldAddr 3 rfl Tryz.underlying37 rfl Tryz.sizeOf2) rfl ?_
       refine yg1 rfl rfl ?_
       refine y (ev_load rfl Tryz.isAgg2 zin rfl) rfl ?_
       refine yg1 rfl rfl ?_
       refine ycall (x11Within) rfl Tryz.call81 ztk rfl ?_
       rintro v L' ⟨rfl, rfl⟩
       refine y (ev_pick1 rfl rfl) rfl ?_
       refine y (ev_move rfl) rfl ?_
       refine ysplit 37 rfl (fun h45 => ?_) (fun h45 => ?_)
       ·(try simp only [sH] at h45)
        refine yg1 rfl rfl ?_
        refine y (ev_fieldAddr 4 rfl Tryz.underlying37 rfl Tryz.sizeOf3) rfl ?_
        refine yg1 rfl rfl ?_
        refine y (ev_load rfl Tryz.isAgg3 zin rfl) rfl ?_
        refine yg1 rfl rfl ?_
        refine y (ev_geq rfl rfl) rfl ?_
        refine y (ev_pick1 rfl rfl) rfl ?_
        refine y (ev_move rfl) rfl ?_
        refine ysplit 42 rfl (fun h51 => ?_) (fun h51 => ?_)
        ·(try simp only [sH] at h51)
         refine yg1 rfl rfl ?_
         refine y (ev_fieldAddr 4 rfl Tryz.underlying37 rfl Tryz.sizeOf3) rfl ?_
         refine yg1 rfl rfl ?_
         refine y (ev_load rfl Tryz.isAgg3 zin rfl) rfl ?_
         refine yg1 rfl rfl ?_
         refine y (ev_leq rfl rfl) rfl ?_
         refine y (ev_pick1 rfl rfl) rfl ?_
         refine y (ev_move rfl) rfl ?_
         refine ysplit 47 rfl (fun h57 => ?_) (fun h57 => ?_)
         ·(try simp only [sH] at h57)
          refine yg1 rfl rfl ?_
          refine y (ev_fieldAddr 5 rfl Tryz.underlying37 rfl Tryz.sizeOf3) rfl ?_
          refine yg1 rfl rfl ?_
          refine y (ev_load rfl Tryz.isAgg3 zin rfl) rfl ?_
          refine yg1 rfl rfl ?_
          refine y (ev_geq rfl rfl) rfl ?_
          refine y (ev_pick1 rfl rfl) rfl ?_
          refine y (ev_move rfl) rfl ?_
          refine ysplit 52 rfl (fun h63 => ?_) (fun h63 => ?_)
          ·(try simp only [sH] at h63)
           refine yg1 rfl rfl ?_
           refine y (ev_fieldAddr 5 rfl Tryz.underlying37 rfl Tryz.sizeOf3) rfl ?_
           refine yg1 rfl rfl ?_
           refine y (ev_load rfl Tryz.isAgg3 zin rfl) rfl ?_
           refine yg1 rfl rfl ?_
           refine y (ev_leq rfl rfl) rfl ?_
           refine y (ev_pick1 rfl rfl) rfl ?_
           refine y (ev_move rfl) rfl ?_
           refine ysplit 57 rfl (fun h69 => ?_) (fun h69 => ?_)
           ·(try simp only [sH] at h69)
            refine yg1 rfl rfl ?_
            refine y (ev_fieldAddr 6 rfl Tryz.underlying37 rfl Tryz.sizeOf29) rfl ?_
            refine yg1 rfl rfl ?_
            refine y (ev_load rfl Tryz.isAgg29 zin rfl) rfl ?_
            refine yg1 rfl rfl ?_
            refine y (ev_geq rfl rfl) rfl ?_
            refine y (ev_pick1 rfl rfl) rfl ?_
            refine y (ev_move rfl) rfl ?_
            refine ysplit 62 rfl (fun h75 => ?_) (fun h75 => ?_)
            ·(try simp only [sH] at h75)
             refine yg1 rfl rfl ?_
             refine y (ev_fieldAddr 6 rfl Tryz.underlying37 rfl Tryz.sizeOf29) rfl ?_
             refine yg1 rfl rfl ?_
             refine y (ev_load rfl Tryz.isAgg29 zin rfl) rfl ?_
             refine yg1 rfl rfl ?_
             refine y (ev_leq rfl rfl) rfl ?_
             refine y (ev_pick1 rfl rfl) rfl ?_
             refine y (ev_move rfl) rfl ?_
             refine ysplit 67 rfl (fun h81 => ?_) (fun h81 => ?_)
             ·(try simp only [sH] at h81)
              refine yg1 rfl rfl ?_
              refine y (ev_fieldAddr 11 rfl Tryz.underlying37 rfl Tryz.sizeOf9) rfl ?_
              refine yg1 rfl rfl ?_
              refine y (ev_load rfl Tryz.isAgg9 zin rfl) rfl ?_
              refine yg1 rfl rfl ?_
              first
                | refine y (ev_lenStr rfl Tryz.underlying9) rfl ?_
                | refine y (ev_lenS rfl Tryz.underlying9) rfl ?_
              refine yg1 rfl rfl ?_
              refine y (ev_leq rfl rfl) rfl ?_
              refine y (ev_pick1 rfl rfl) rfl ?_
              refine y (ev_move rfl) rfl ?_
              refine ysplit 73 rfl (fun h88 => ?_) (fun h88 => ?_)
              ·(try simp only [sH] at h88)
               refine yg1 rfl rfl ?_
               refine y (ev_fieldAddr 12 rfl Tryz.underlying37 rfl Tryz.sizeOf9) rfl ?_
               refine yg1 rfl rfl ?_
               refine y (ev_load rfl Tryz.isAgg9 zin rfl) rfl ?_
               refine yg1 rfl rfl ?_
               first
                 | refine y (ev_lenStr rfl Tryz.underlying9) rfl ?_
                 | refine y (ev_lenS rfl Tryz.underlying9) rfl ?_
               refine yg1 rfl rfl ?_
               refine y (ev_leq rfl rfl) rfl ?_
               refine y (ev_pick1 rfl rfl) rfl ?_
               refine y (ev_assign rfl) rfl ?_
               refine ynil' (kthn (hK4 _ _ ?_))
               clear hK4
               refine cret ?_
               first
                 | (exfalso; omega; done)
                 | (refine kretv Tryz.results50 rfl (L1 := R) zge ?_
                    exact ⟨_, ⟨by first | rfl | (rw [hno]; done) | (rw [hrest]; (try simp only [within3, Bool.and_eq_true, Bool.and_eq_false_iff, decide_eq_true_eq, decide_eq_false_iff_not] at *); congr 1; first | (symm; rw [decide_eq_false_iff_not]; omega) | (rw [decide_eq_decide]; omega)), rfl⟩, by first | rfl | (rw [hno]; done) | (rw [hrest]; (try simp only [within3, Bool.and_eq_true, Bool.and_eq_false_iff, decide_eq_true_eq, decide_eq_false_iff_not] at *); congr 1; first | (symm; rw [decide_eq_false_iff_not]; omega) | (rw [decide_eq_decide]; omega))⟩)
              ·(try simp only [sH] at h88)
               refine yg0 rfl rfl rfl rfl ?_
               refine yg0 rfl rfl rfl rfl ?_
               refine yg0 rfl rfl rfl rfl ?_
               refine yg0 rfl rfl rfl rfl ?_
               refine y (ev_pick0 rfl rfl) rfl ?_
               refine y (ev_assign rfl) rfl ?_
               refine ynil' (kthn (hK4 _ _ ?_))
               clear hK4
               refine cret ?_
               first
                 | (exfalso; omega; done)
                 | (refine kretv Tryz.results50 rfl (L1 := R) zge ?_
                    exact ⟨_, ⟨by first | rfl | (rw [hno]; done) | (rw [hrest]; (try simp only [within3, Bool.and_eq_true, Bool.and_eq_false_iff, decide_eq_true_eq, decide_eq_false_iff_not] at *); congr 1; first | (symm; rw [decide_eq_false_iff_not]; omega) | (rw [decide_eq_decide]; omega)), rfl⟩, by first | rfl | (rw [hno]; done) | (rw [hrest]; (try simp only [within3, Bool.and_eq_true, Bool.and_eq_false_iff, decide_eq_true_eq, decide_eq_false_iff_not] at *); congr 1; first | (symm; rw [decide_eq_false_iff_not]; omega) | (rw [decide_eq_decide]; omega))⟩)
             ·(try simp only [sH] at h81)
              refine yg0 rfl rfl rfl rfl ?_
              refine yg0 rfl rfl rfl rfl ?_
              refine yg0 rfl rfl rfl rfl ?_
              refine yg0 rfl rfl rfl rfl ?_
              refine y (ev_pick0 rfl rfl) rfl ?_
              refine y (ev_move rfl) rfl ?_
              refine yg0 rfl rfl rfl rfl ?_
              refine yg0 rfl rfl rfl rfl ?_
              refine yg0 rfl rfl rfl rfl ?_
              refine yg0 rfl rfl rfl rfl ?_
              refine y (ev_pick0 rfl rfl) rfl ?_
              refine y (ev_assign rfl) rfl ?_
              refine ynil' (kthn (hK4 _ _ ?_))
              clear hK4
              refine cret ?_
              first
                | (exfalso; omega; done)
                | (refine kretv Tryz.results50 rfl (L1 := R) zge ?_
                   exact ⟨_, ⟨by first | rfl | (rw [hno]; done) | (rw [hrest]; (try simp only [within3, Bool.and_eq_true, Bool.and_eq_false_iff, decide_eq_true_eq, decide_eq_false_iff_not] at *); congr 1; first | (symm; rw [decide_eq_false_iff_not]; omega) | (rw [decide_eq_decide]; omega)), rfl⟩, by first | rfl | (rw [hno]; done) | (rw [hrest]; (try simp only [within3, Bool.and_eq_true, Bool.and_eq_false_iff, decide_eq_true_eq, decide_eq_false_iff_not] at *); congr 1; first | (symm; rw [decide_eq_false_iff_not]; omega) | (rw [decide_eq_decide]; omega))⟩)
            ·(try simp only [sH] at h75)
             refine yg0 rfl rfl rfl rfl ?_
             refine yg0 rfl rfl rfl rfl ?_
             refine yg0 rfl rfl rfl rfl ?_
             refine y (ev_pick0 rfl rfl) rfl ?_
             refine y (ev_move rfl) rfl ?_
             refine yg0 rfl rfl rfl rfl ?_
             refine yg0 rfl rfl rfl rfl ?_
             refine yg0 rfl rfl rfl rfl ?_
             refine yg0 rfl rfl rfl rfl ?_
             refine y (ev_pick0 rfl rfl) rfl ?_
             refine y (ev_move rfl) rfl ?_
             refine yg0 rfl rfl rfl rfl ?_
             refine yg0 rfl rfl rfl rfl ?_
             refine yg0 rfl rfl rfl rfl ?_
             refine yg0 rfl rfl rfl rfl ?_
             refine y (ev_pick0 rfl rfl) rfl ?_
             refine y (ev_assign rfl) rfl ?_
             refine ynil' (kthn (hK4 _ _ ?_))
             clear hK4
             refine cret ?_
             first
               | (exfalso; omega; done)
               | (refine kretv Tryz.results50 rfl (L1 := R) zge ?_
                  exact ⟨_, ⟨by first | rfl | (rw [hno]; done) | (rw [hrest]; (try simp only [within3, Bool.and_eq_true, Bool.and_eq_false_iff, decide_eq_true_eq, decide_eq_false_iff_not] at *); congr 1; first | (symm; rw [decide_eq_false_iff_not]; omega) | (rw [decide_eq_decide]; omega)), rfl⟩, by first | rfl | (rw [hno]; done) | (rw [hrest]; (try simp only [within3, Bool.and_eq_true, Bool.and_eq_false_iff, decide_eq_true_eq, decide_eq_false_iff_not] at *); congr 1; first | (symm; rw [decide_eq_false_iff_not]; omega) | (rw [decide_eq_decide]; omega))⟩)
           ·(try simp only [sH] at h69)
            refine yg0 rfl rfl rfl rfl ?_
            refine yg0 rfl rfl rfl rfl ?_
            refine yg0 rfl rfl rfl rfl ?_
            refine y (ev_pick0 rfl rfl) rfl ?_
            refine y (ev_move rfl) rfl ?_
            refine yg0 rfl rfl rfl rfl ?_
            refine yg0 rfl rfl rfl rfl ?_
            refine yg0 rfl rfl rfl rfl ?_
            refine y (ev_pick0 rfl rfl) rfl ?_
            refine y (ev_move rfl) rfl ?_
            refine yg0 rfl rfl rfl rfl ?_
            refine yg0 rfl rfl rfl rfl ?_
            refine yg0 rfl rfl rfl rfl ?_
            refine yg0 rfl rfl rfl rfl ?_
            refine y (ev_pick0 rfl rfl) rfl ?_
            refine y (ev_move rfl) rfl ?_
            refine yg0 rfl rfl rfl rfl ?_
            refine yg0 rfl rfl rfl rfl ?_
            refine yg0 rfl rfl rfl rfl ?_
            refine yg0 rfl rfl rfl rfl ?_
            refine y (ev_pick0 rfl rfl) rfl ?_
            refine y (ev_assign rfl) rfl ?_
            refine ynil' (kthn (hK4 _ _ ?_))
            clear hK4
            refine cret ?_
            first
              | (exfalso; omega; done)
              | (refine kretv Tryz.results50 rfl (L1 := R) zge ?_
                 exact ⟨_, ⟨by first | rfl | (rw [hno]; done) | (rw [hrest]; (try simp only [within3, Bool.and_eq_true, Bool.and_eq_false_iff, decide_eq_true_eq, decide_eq_false_iff_not] at *); congr 1; first | (symm; rw [decide_eq_false_iff_not]; omega) | (rw [decide_eq_decide]; omega)), rfl⟩, by first | rfl | (rw [hno]; done) | (rw [hrest]; (try simp only [within3, Bool.and_eq_true, Bool.and_eq_false_iff, decide_eq_true_eq, decide_eq_false_iff_not] at *); congr 1; first | (symm; rw [decide_eq_false_iff_not]; omega) | (rw [decide_eq_decide]; omega))⟩)
          ·(try simp only [sH] at h63)
           refine yg0 rfl rfl rfl rfl ?_
           refine yg0 rfl rfl rfl rfl ?_
           refine yg0 rfl rfl rfl rfl ?_
           refine y (ev_pick0 rfl rfl) rfl ?_
           refine y (ev_move rfl) rfl ?_
           refine yg0 rfl rfl rfl rfl ?_
           refine yg0 rfl rfl rfl rfl ?_
           refine yg0 rfl rfl rfl rfl ?_
           refine y (ev_pick0 rfl rfl) rfl ?_
           refine y (ev_move rfl) rfl ?_
           refine yg0 rfl rfl rfl rfl ?_
           refine yg0 rfl rfl rfl rfl ?_
           refine yg0 rfl rfl rfl rfl ?_
           refine y (ev_pick0 rfl rfl) rfl ?_
           refine y (ev_move rfl) rfl ?_
           refine yg0 rfl rfl rfl rfl ?_
           refine yg0 rfl rfl rfl rfl ?_
           refine yg0 rfl rfl rfl rfl ?_
           refine yg0 rfl rfl rfl rfl ?_
           refine y (ev_pick0 rfl rfl) rfl ?_
           refine y (ev_move rfl) rfl ?_
           refine yg0 rfl rfl rfl rfl ?_
           refine yg0 rfl rfl rfl rfl ?_
           refine yg0 rfl rfl rfl rfl ?_
           refine yg0 rfl rfl rfl rfl ?_
           refine y (ev_pick0 rfl rfl) rfl ?_
           refine y (ev_assign rfl) rfl ?_
           refine ynil' (kthn (hK4 _ _ ?_))
           clear hK4
           refine cret ?_
           first
             | (exfalso; omega; done)
             | (refine kretv Tryz.results50 rfl (L1 := R) zge ?_
                exact ⟨_, ⟨by first | rfl | (rw [hno]; done) | (rw [hrest]; (try simp only [within3, Bool.and_eq_true, Bool.and_eq_false_iff, decide_eq_true_eq, decide_eq_false_iff_not] at *); congr 1; first | (symm; rw [decide_eq_false_iff_not]; omega) | (rw [decide_eq_decide]; omega)), rfl⟩, by first | rfl | (rw [hno]; done) | (rw [hrest]; (try simp only [within3, Bool.and_eq_true, Bool.and_eq_false_iff, decide_eq_true_eq, decide_eq_false_iff_not] at *); congr 1; first | (symm; rw [decide_eq_false_iff_not]; omega) | (rw [decide_eq_decide]; omega))⟩)
         ·(try simp only [sH] at h57)
          refine yg0 rfl rfl rfl rfl ?_
          refine yg0 rfl rfl rfl rfl ?_
          refine yg0 rfl rfl rfl rfl ?_
          refine y (ev_pick0 rfl rfl) rfl ?_
          refine y (ev_move rfl) rfl ?_
          refine yg0 rfl rfl rfl rfl ?_
          refine yg0 rfl rfl rfl rfl ?_
          refine yg0 rfl rfl rfl rfl ?_
          refine y (ev_pick0 rfl rfl) rfl ?_
          refine y (ev_move rfl) rfl ?_
          refine yg0 rfl rfl rfl rfl ?_
          refine yg0 rfl rfl rfl rfl ?_
          refine yg0 rfl rfl rfl rfl ?_
          refine y (ev_pick0 rfl rfl) rfl ?_
          refine y (ev_move rfl) rfl ?_
          refine yg0 rfl rfl rfl rfl ?_
          refine yg0 rfl rfl rfl rfl ?_
          refine yg0 rfl rfl rfl rfl ?_
          refine y (ev_pick0 rfl rfl) rfl ?_
          refine y (ev_move rfl) rfl ?_
          refine yg0 rfl rfl rfl rfl ?_
          refine yg0 rfl rfl rfl rfl ?_
          refine yg0 rfl rfl rfl rfl ?_
          refine yg0 rfl rfl rfl rfl ?_
          refine y (ev_pick0 rfl rfl) rfl ?_
          refine y (ev_move rfl) rfl ?_
          refine yg0 rfl rfl rfl rfl ?_
          refine yg0 rfl rfl rfl rfl ?_
          refine yg0 rfl rfl rfl rfl ?_
          refine yg0 rfl rfl rfl rfl ?_
          refine y (ev_pick0 rfl rfl) rfl ?_
          refine y (ev_assign rfl) rfl ?_
          refine ynil' (kthn (hK4 _ _ ?_))
          clear hK4
          refine cret ?_
          first
            | (exfalso; omega; done)
            | (refine kretv Tryz.results50 rfl (L1 := R) zge ?_
               exact ⟨_, ⟨by first | rfl | (rw [hno]; done) | (rw [hrest]; (try simp only [within3, Bool.and_eq_true, Bool.and_eq_false_iff, decide_eq_true_eq, decide_eq_false_iff_not] at *); congr 1; first | (symm; rw [decide_eq_false_iff_not]; omega) | (rw [decide_eq_decide]; omega)), rfl⟩, by first | rfl | (rw [hno]; done) | (rw [hrest]; (try simp only [within3, Bool.and_eq_true, Bool.and_eq_false_iff, decide_eq_true_eq, decide_eq_false_iff_not] at *); congr 1; first | (symm; rw [decide_eq_false_iff_not]; omega) | (rw [decide_eq_decide]; omega))⟩)
        ·(try simp only [sH] at h51)
         refine yg0 rfl rfl rfl rfl ?_
         refine yg0 rfl rfl rfl rfl ?_
         refine yg0 rfl rfl rfl rfl ?_
         refine y (ev_pick0 rfl rfl) rfl ?_
         refine y (ev_move rfl) rfl ?_
         refine yg0 rfl rfl rfl rfl ?_
         refine yg0 rfl rfl rfl rfl ?_
         refine yg0 rfl rfl rfl rfl ?_
         refine y (ev_pick0 rfl rfl) rfl ?_
         refine y (ev_move rfl) rfl ?_
         refine yg0 rfl rfl rfl rfl ?_
         refine yg0 rfl rfl rfl rfl ?_
         refine yg0 rfl rfl rfl rfl ?_
         refine y (ev_pick0 rfl rfl) rfl ?_
         refine y (ev_move rfl) rfl ?_
         refine yg0 rfl rfl rfl rfl ?_
         refine yg0 rfl rfl rfl rfl ?_
         refine yg0 rfl rfl rfl rfl ?_
         refine y (ev_pick0 rfl rfl) rfl ?_
         refine y (ev_move rfl) rfl ?_
         refine yg0 rfl rfl rfl rfl ?_
         refine yg0 rfl rfl rfl rfl ?_
         refine yg0 rfl rfl rfl rfl ?_
         refine y (ev_pick0 rfl rfl) rfl ?_
         refine y (ev_move rfl) rfl ?_
         refine yg0 rfl rfl rfl rfl ?_
         refine yg0 rfl rfl rfl rfl ?_
         refine yg0 rfl rfl rfl rfl ?_
         refine yg0 rfl rfl rfl rfl ?_
         refine y (ev_pick0 rfl rfl) rfl ?_
         refine y (ev_move rfl) rfl ?_
         refine yg0 rfl rfl rfl rfl ?_
         refine yg0 rfl rfl rfl rfl ?_
         refine yg0 rfl rfl rfl rfl ?_
         refine yg0 rfl rfl rfl rfl ?_
         refine y (ev_pick0 rfl rfl) rfl ?_
         refine y (ev_assign rfl) rfl ?_
         refine ynil' (kthn (hK4 _ _ ?_))
         clear hK4
         refine cret ?_
         first
           | (exfalso; omega; done)
           | (refine kretv Tryz.results50 rfl (L1 := R) zge ?_
              exact ⟨_, ⟨by first | rfl | (rw [hno]; done) | (rw [hrest]; (try simp only [within3, Bool.and_eq_true, Bool.and_eq_false_iff, decide_eq_true_eq, decide_eq_false_iff_not] at *); congr 1; first | (symm; rw [decide_eq_false_iff_not]; omega) | (rw [decide_eq_decide]; omega)), rfl⟩, by first | rfl | (rw [hno]; done) | (rw [hrest]; (try simp only [within3, Bool.and_eq_true, Bool.and_eq_false_iff, decide_eq_true_eq, decide_eq_false_iff_not] at *); congr 1; first | (symm; rw [decide_eq_false_iff_not]; omega) | (rw [decide_eq_decide]; omega))⟩)
       ·(try simp only [sH] at h45)
        refine yg0 rfl rfl rfl rfl ?_
        refine yg0 rfl rfl rfl rfl ?_
        refine yg0 rfl rfl rfl rfl ?_
        refine y (ev_pick0 rfl rfl) rfl ?_
        refine y (ev_move rfl) rfl ?_
        refine yg0 rfl rfl rfl rfl ?_
        refine yg0 rfl rfl rfl rfl ?_
        refine yg0 rfl rfl rfl rfl ?_
        refine y (ev_pick0 rfl rfl) rfl ?_
        refine y (ev_move rfl) rfl ?_
        refine yg0 rfl rfl rfl rfl ?_
        refine yg0 rfl rfl rfl rfl ?_
        refine yg0 rfl rfl rfl rfl ?_
        refine y (ev_pick0 rfl rfl) rfl ?_
        refine y (ev_move rfl) rfl ?_
        refine yg0 rfl rfl rfl rfl ?_
        refine yg0 rfl rfl rfl rfl ?_
        refine yg0 rfl rfl rfl rfl ?_
        refine y (ev_pick0 rfl rfl) rfl ?_
        refine y (ev_move rfl) rfl ?_
        refine yg0 rfl rfl rfl rfl ?_
        refine yg0 rfl rfl rfl rfl ?_
        refine yg0 rfl rfl rfl rfl ?_
        refine y (ev_pick0 rfl rfl) rfl ?_
        refine y (ev_move rfl) rfl ?_
        refine yg0 rfl rfl rfl rfl ?_
        refine yg0 rfl rfl rfl rfl ?_
        refine yg0 rfl rfl rfl rfl ?_
        refine y (ev_pick0 rfl rfl) rfl ?_
        refine y (ev_move rfl) rfl ?_
        refine yg0 rfl rfl rfl rfl ?_
        refine yg0 rfl rfl rfl rfl ?_
        refine yg0 rfl rfl rfl rfl ?_
        refine yg0 rfl rfl rfl rfl ?_
        refine y (ev_pick0 rfl rfl) rfl ?_
        refine y (ev_move rfl) rfl ?_
        refine yg0 rfl rfl rfl rfl ?_
        refine yg0 rfl rfl rfl rfl ?_
        refine yg0 rfl rfl rfl rfl ?_
        refine yg0 rfl rfl rfl rfl ?_
        refine y (ev_pick0 rfl rfl) rfl ?_
        refine y (ev_assign rfl) rfl ?_
        refine ynil' (kthn (hK4 _ _ ?_))
        clear hK4
        refine cret ?_
        first
          | (exfalso; omega; done)
          | (refine kretv Tryz.results50 rfl (L1 := R) zge ?_
             exact ⟨_, ⟨by first | rfl | (rw [hno]; done) | (rw [hrest]; (try simp only [within3, Bool.and_eq_true, Bool.and_eq_false_iff, decide_eq_true_eq, decide_eq_false_iff_not] at *); congr 1; first | (symm; rw [decide_eq_false_iff_not]; omega) | (rw [decide_eq_decide]; omega)), rfl⟩, by first | rfl | (rw [hno]; done) | (rw [hrest]; (try simp only [within3, Bool.and_eq_true, Bool.and_eq_false_iff, decide_eq_true_eq, decide_eq_false_iff_not] at *); congr 1; first | (symm; rw [decide_eq_false_iff_not]; omega) | (rw [decide_eq_decide]; omega))⟩)
      ·(try simp only [sH] at h39)
       refine yg0 rfl rfl rfl rfl ?_
       refine yg0 rfl rfl rfl rfl ?_
       refine yg0 rfl rfl rfl rfl ?_
       refine y (ev_pick0 rfl rfl) rfl ?_
       refine y (ev_move rfl) rfl ?_
       refine yg0 rfl rfl rfl rfl ?_
       refine yg0 rfl rfl rfl rfl ?_
       refine yg0 rfl rfl rfl rfl ?_
       refine y (ev_pick0 rfl rfl) rfl ?_
       refine y (ev_move rfl) rfl ?_
       refine yg0 rfl rfl rfl rfl ?_
       refine yg0 rfl rfl rfl rfl ?_
       refine yg0 rfl rfl rfl rfl ?_
       refine y (ev_pick0 rfl rfl) rfl ?_
       refine y (ev_move rfl) rfl ?_
       refine yg0 rfl rfl rfl rfl ?_
       refine yg0 rfl rfl rfl rfl ?_
       refine yg0 rfl rfl rfl rfl ?_
       refine y (ev_pick0 rfl rfl) rfl ?_
       refine y (ev_move rfl) rfl ?_
       refine yg0 rfl rfl rfl rfl ?_
       refine yg0 rfl rfl rfl rfl ?_
       refine yg0 rfl rfl rfl rfl ?_
       refine y (ev_pick0 rfl rfl) rfl ?_
       refine y (ev_move rfl) rfl ?_
       refine yg0 rfl rfl rfl rfl ?_
       refine yg0 rfl rfl rfl rfl ?_
       refine yg0 rfl rfl rfl rfl ?_
       refine y (ev_pick0 rfl rfl) rfl ?_
       refine y (ev_move rfl) rfl ?_
       refine yg0 rfl rfl rfl rfl ?_
       refine yg0 rfl rfl rfl rfl ?_
       refine yg0 rfl rfl rfl rfl ?_
       refine y (ev_pick0 rfl rfl) rfl ?_
       refine y (ev_move rfl) rfl ?_
       refine yg0 rfl rfl rfl rfl ?_
       refine yg0 rfl rfl rfl rfl ?_
       refine yg0 rfl rfl rfl rfl ?_
       refine yg0 rfl rfl rfl rfl ?_
       refine y (ev_pick0 rfl rfl) rfl ?_
       refine y (ev_move rfl) rfl ?_
       refine yg0 rfl rfl rfl rfl ?_
       refine yg0 rfl rfl rfl rfl ?_
       refine yg0 rfl rfl rfl rfl ?_
       refine yg0 rfl rfl rfl rfl ?_
       refine y (ev_pick0 rfl rfl) rfl ?_
       refine y (ev_assign rfl) rfl ?_
       refine ynil' (kthn (hK4 _ _ ?_))
       clear hK4
       refine cret ?_
       first
         | (exfalso; omega; done)
         | (refine kretv Tryz.results50 rfl (L1 := R) zge ?_
            exact ⟨_, ⟨by first | rfl | (rw [hno]; done) | (rw [hrest]; (try simp only [within3, Bool.and_eq_true, Bool.and_eq_false_iff, decide_eq_true_eq, decide_eq_false_iff_not] at *); congr 1; first | (symm; rw [decide_eq_false_iff_not]; omega) | (rw [decide_eq_decide]; omega)), rfl⟩, by first | rfl | (rw [hno]; done) | (rw [hrest]; (try simp only [within3, Bool.and_eq_true, Bool.and_eq_false_iff, decide_eq_true_eq, decide_eq_false_iff_not] at *); congr 1; first | (symm; rw [decide_eq_false_iff_not]; omega) | (rw [decide_eq_decide]; omega))⟩)
     ·(try simp only [sH] at h33)
      refine yg0 rfl rfl rfl rfl ?_
      refine yg0 rfl rfl rfl rfl ?_
      refine yg0 rfl rfl rfl rfl ?_
      refine y (ev_pick0 rfl rfl) rfl ?_
      refine y (ev_move rfl) rfl ?_
      refine yg0 rfl rfl rfl rfl ?_
      refine yg0 rfl rfl rfl rfl ?_
      refine yg0 rfl rfl rfl rfl ?_
      refine y (ev_pick0 rfl rfl) rfl ?_
      refine y (ev_move rfl) rfl ?_
      refine yg0 rfl rfl rfl rfl ?_
      refine yg0 rfl rfl rfl rfl ?_
      refine yg0 rfl rfl rfl rfl ?_
      refine y (ev_pick0 rfl rfl) rfl ?_
      refine y (ev_move rfl) rfl ?_
      refine yg0 rfl rfl rfl rfl ?_
      refine yg0 rfl rfl rfl rfl ?_
      refine yg0 rfl rfl rfl rfl ?_
      refine y (ev_pick0 rfl rfl) rfl ?_
      refine y (ev_move rfl) rfl ?_
      refine yg0 rfl rfl rfl rfl ?_
      refine yg0 rfl rfl rfl rfl ?_
      refine yg0 rfl rfl rfl rfl ?_
      refine y (ev_pick0 rfl rfl) rfl ?_
      refine y (ev_move rfl) rfl ?_
      refine yg0 rfl rfl rfl rfl ?_
      refine yg0 rfl rfl rfl rfl ?_
      refine yg0 rfl rfl rfl rfl ?_
      refine y (ev_pick0 rfl rfl) rfl ?_
      refine y (ev_move rfl) rfl ?_
      refine yg0 rfl rfl rfl rfl ?_
      refine yg0 rfl rfl rfl rfl ?_
      refine yg0 rfl rfl rfl rfl ?_
      refine y (ev_pick0 rfl rfl) rfl ?_
      refine y (ev_move rfl) rfl ?_
      refine yg0 rfl rfl rfl rfl ?_
      refine yg0 rfl rfl rfl rfl ?_
      refine yg0 rfl rfl rfl rfl ?_
      refine y (ev_pick0 rfl rfl) rfl ?_
      refine y (ev_move rfl) rfl ?_
      refine yg0 rfl rfl rfl rfl ?_
      refine yg0 rfl rfl rfl rfl ?_
      refine yg0 rfl rfl rfl rfl ?_
      refine yg0 rfl rfl rfl rfl ?_
      refine y (ev_pick0 rfl rfl) rfl ?_
      refine y (ev_move rfl) rfl ?_
      refine yg0 rfl rfl rfl rfl ?_
      refine yg0 rfl rfl rfl rfl ?_
      refine yg0 rfl rfl rfl rfl ?_
      refine yg0 rfl rfl rfl rfl ?_
      refine y (ev_pick0 rfl rfl) rfl ?_
      refine y (ev_assign rfl) rfl ?_
      refine ynil' (kthn (hK4 _ _ ?_))
      clear hK4
      refine cret ?_
      first
        | (exfalso; omega; done)
        | (refine kretv Tryz.results50 rfl (L1 := R) zge ?_
           exact ⟨_, ⟨by first | rfl | (rw [hno]; done) | (rw [hrest]; (try simp only [within3, Bool.and_eq_true, Bool.and_eq_false_iff, decide_eq_true_eq, decide_eq_false_iff_not] at *); congr 1; first | (symm; rw [decide_eq_false_iff_not]; omega) | (rw [decide_eq_decide]; omega)), rfl⟩, by first | rfl | (rw [hno]; done) | (rw [hrest]; (try simp only [within3, Bool.and_eq_true, Bool.and_eq_false_iff, decide_eq_true_eq, decide_eq_false_iff_not] at *); congr 1; first | (symm; rw [decide_eq_false_iff_not]; omega) | (rw [decide_eq_decide]; omega))⟩)
    ·(try simp only [sH] at h27)
     refine yg0 rfl rfl rfl rfl ?_
     refine yg0 rfl rfl rfl rfl ?_
     refine yg0 rfl rfl rfl rfl ?_
     refine y (ev_pick0 rfl rfl) rfl ?_
     refine y (ev_move rfl) rfl ?_
     refine yg0 rfl rfl rfl rfl ?_
     refine yg0 rfl rfl rfl rfl ?_
     refine yg0 rfl rfl rfl rfl ?_
     refine y (ev_pick0 rfl rfl) rfl ?_
     refine y (ev_move rfl) rfl ?_
     refine yg0 rfl rfl rfl rfl ?_
     refine yg0 rfl rfl rfl rfl ?_
     refine yg0 rfl rfl rfl rfl ?_
     refine y (ev_pick0 rfl rfl) rfl ?_
     refine y (ev_move rfl) rfl ?_
     refine yg0 rfl rfl rfl rfl ?_
     refine yg0 rfl rfl rfl rfl ?_
     refine yg0 rfl rfl rfl rfl ?_
     refine y (ev_pick0 rfl rfl) rfl ?_
     refine y (ev_move rfl) rfl ?_
     refine yg0 rfl rfl rfl rfl ?_
     refine yg0 rfl rfl rfl rfl ?_
     refine yg0 rfl rfl rfl rfl ?_
     refine y (ev_pick0 rfl rfl) rfl ?_
     refine y (ev_move rfl) rfl ?_
     refine yg0 rfl rfl rfl rfl ?_
     refine yg0 rfl rfl rfl rfl ?_
     refine yg0 rfl rfl rfl rfl ?_
     refine y (ev_pick0 rfl rfl) rfl ?_
     refine y (ev_move rfl) rfl ?_
     refine yg0 rfl rfl rfl rfl ?_
     refine yg0 rfl rfl rfl rfl ?_
     refine yg0 rfl rfl rfl rfl ?_
     refine y (ev_pick0 rfl rfl) rfl ?_
     refine y (ev_move rfl) rfl ?_
     refine yg0 rfl rfl rfl rfl ?_
     refine yg0 rfl rfl rfl rfl ?_
     refine yg0 rfl rfl rfl rfl ?_
     refine y (ev_pick0 rfl rfl) rfl ?_
     refine y (ev_move rfl) rfl ?_
     refine yg0 rfl rfl rfl rfl ?_
     refine yg0 rfl rfl rfl rfl ?_
     refine yg0 rfl rfl rfl rfl ?_
     refine y (ev_pick0 rfl rfl) rfl ?_
     refine y (ev_move rfl) rfl ?_
     refine yg0 rfl rfl rfl rfl ?_
     refine yg0 rfl rfl rfl rfl ?_
     refine yg0 rfl rfl rfl rfl ?_
     refine yg0 rfl rfl rfl rfl ?_
     refine y (ev_pick0 rfl rfl) rfl ?_
     refine y (ev_move rfl) rfl ?_
     refine yg0 rfl rfl rfl rfl ?_
     refine yg0 rfl rfl rfl rfl ?_
     refine yg0 rfl rfl rfl rfl ?_
     refine yg0 rfl rfl rfl rfl ?_
     refine y (ev_pick0 rfl rfl) rfl ?_
     refine y (ev_assign rfl) rfl ?_
     refine ynil' (kthn (hK4 _ _ ?_))
     clear hK4
     refine cret ?_
     first
       | (exfalso; omega; done)
       | (refine kretv Tryz.results50 rfl (L1 := R) zge ?_
          exact ⟨_, ⟨by first | rfl | (rw [hno]; done) | (rw [hrest]; (try simp only [within3, Bool.and_eq_true, Bool.and_eq_false_iff, decide_eq_true_eq, decide_eq_false_iff_not] at *); congr 1; first | (symm; rw [decide_eq_false_iff_not]; omega) | (rw [decide_eq_decide]; omega)), rfl⟩, by first | rfl | (rw [hno]; done) | (rw [hrest]; (try simp only [within3, Bool.and_eq_true, Bool.and_eq_false_iff, decide_eq_true_eq, decide_eq_false_iff_not] at *); congr 1; first | (symm; rw [decide_eq_false_iff_not]; omega) | (rw [decide_eq_decide]; omega))⟩)
   ·(try simp only [sH] at h21)
    refine yg0 rfl rfl rfl rfl ?_
    refine yg0 rfl rfl rfl rfl ?_
    refine yg0 rfl rfl rfl rfl ?_
    refine y (ev_pick0 rfl rfl) rfl ?_
    refine y (ev_move rfl) rfl ?_
    refine yg0 rfl rfl rfl rfl ?_
    refine yg0 rfl rfl rfl rfl ?_
    refine yg0 rfl rfl rfl rfl ?_
    refine y (ev_pick0 rfl rfl) rfl ?_
    refine y (ev_move rfl) rfl ?_
    refine yg0 rfl rfl rfl rfl ?_
    refine yg0 rfl rfl rfl rfl ?_
    refine yg0 rfl rfl rfl rfl ?_
    refine y (ev_pick0 rfl rfl) rfl ?_
    refine y (ev_move rfl) rfl ?_
    refine yg0 rfl rfl rfl rfl ?_
    refine yg0 rfl rfl rfl rfl ?_
    refine yg0 rfl rfl rfl rfl ?_
    refine y (ev_pick0 rfl rfl) rfl ?_
    refine y (ev_move rfl) rfl ?_
    refine yg0 rfl rfl rfl rfl ?_
    refine yg0 rfl rfl rfl rfl ?_
    refine yg0 rfl rfl rfl rfl ?_
    refine y (ev_pick0 rfl rfl) rfl ?_
    refine y (ev_move rfl) rfl ?_
    refine yg0 rfl rfl rfl rfl ?_
    refine yg0 rfl rfl rfl rfl ?_
    refine yg0 rfl rfl rfl rfl ?_
    refine y (ev_pick0 rfl rfl) rfl ?_
    refine y (ev_move rfl) rfl ?_
    refine yg0 rfl rfl rfl rfl ?_
    refine yg0 rfl rfl rfl rfl ?_
    refine yg0 rfl rfl rfl rfl ?_
    refine y (ev_pick0 rfl rfl) rfl ?_
    refine y (ev_move rfl) rfl ?_
    refine yg0 rfl rfl rfl rfl ?_
    refine yg0 rfl rfl rfl rfl ?_
    refine yg0 rfl rfl rfl rfl ?_
    refine y (ev_pick0 rfl rfl) rfl ?_
    refine y (ev_move rfl) rfl ?_
    refine yg0 rfl rfl rfl rfl ?_
    refine yg0 rfl rfl rfl rfl ?_
    refine yg0 rfl rfl rfl rfl ?_
    refine y (ev_pick0 rfl rfl) rfl ?_
    refine y (ev_move rfl) rfl ?_
    refine yg0 rfl rfl rfl rfl ?_
    refine yg0 rfl rfl rfl rfl ?_
    refine yg0 rfl rfl rfl rfl ?_
    refine y (ev_pick0 rfl rfl) rfl ?_
    refine y (ev_move rfl) rfl ?_
    refine yg0 rfl rfl rfl rfl ?_
    refine yg0 rfl rfl rfl rfl ?_
    refine yg0 rfl rfl rfl rfl ?_
    refine yg0 rfl rfl rfl rfl ?_
    refine y (ev_pick0 rfl rfl) rfl ?_
    refine y (ev_move rfl) rfl ?_
    refine yg0 rfl rfl rfl rfl ?_
    refine yg0 rfl rfl rfl rfl ?_
    refine yg0 rfl rfl rfl rfl ?_
    refine yg0 rfl rfl rfl rfl ?_
    refine y (ev_pick0 rfl rfl) rfl ?_
    refine y (ev_assign rfl) rfl ?_
    refine ynil' (kthn (hK4 _ _ ?_))
    clear hK4
    refine cret ?_
    first
      | (exfalso; omega; done)
      | (refine kretv Tryz.results50 rfl (L1 := R) zge ?_
         exact ⟨_, ⟨by first | rfl | (rw [hno]; done) | (rw [hrest]; (try simp only [within3, Bool.and_eq_true, Bool.and_eq_false_iff, decide_eq_true_eq, decide_eq_false_iff_not] at *); congr 1; first | (symm; rw [decide_eq_false_iff_not]; omega) | (rw [decide_eq_decide]; omega)), rfl⟩, by first | rfl | (rw [hno]; done) | (rw [hrest]; (try simp only [within3, Bool.and_eq_true, Bool.and_eq_false_iff, decide_eq_true_eq, decide_eq_false_iff_not] at *); congr 1; first | (symm; rw [decide_eq_false_iff_not]; omega) | (rw [decide_eq_decide]; omega))⟩)
  clear hK2
  refine cblock ?_
  refine cloop (A := Nat) (fun x => [(3, i64 x), (1, ptr b1)]) (fun x => [sc b1 m.cells 37] ++ R) (fun x => x ≤ 4 ∧ mayT m x) (fun x => 4 - x) (0) ?_ zsub zge ?_
  · exact ⟨Nat.zero_le _, mayT_zero m⟩
  rintro k hI1 KL1 hL1
  have hI1o := hI1
  obtain ⟨hk, hok⟩ := hI1
  refine cseq ?_; intro K5 hK5
  refine cseq ?_; intro K6 hK6
  refine creg ?_
  refine y (ev_move rfl) rfl ?_
  refine y (ev_lss rfl rfl) rfl ?_
  refine ynil' (kthn (hK6 _ _ ?_))
  clear hK6
  refine ccond rfl (fun h253 => ?_) (fun h253 => ?_)
  ·(try simp only [sH] at h253)
   refine cskip' (kthn (hK5 _ _ ?_))
   clear hK5
   refine cseq ?_; intro K7 hK7
   refine cblock ?_
   refine cseq ?_; intro K8 hK8
   refine creg ?_
   refine y (ev_move rfl) rfl ?_
   refine y (ev_fieldAddr 7 rfl Tryz.underlying37 rfl Tryz.sizeOf35) rfl ?_
   refine y (ev_ixAddrA rfl rfl Tryz.underlying35 Tryz.sizeOf2 (by omega) (by omega)) rfl ?_
   refine y (ev_load rfl Tryz.isAgg2 zin (msg_tn m (by omega))) rfl ?_
   refine ycall (x11Within) rfl Tryz.call81 ztk rfl ?_
   rintro v L' ⟨rfl, rfl⟩
   refine y (ev_not rfl) rfl ?_
   refine ynil' (kthn (hK8 _ _ ?_))
   clear hK8
   refine ccond rfl (fun h260 => ?_) (fun h260 => ?_)
   ·(try simp only [sH] at h260)
    refine cseq ?_; intro K9 hK9
    refine creg ?_
    have hno : m.may = false := mayT_no (k := k) (by omega) (w3f (by assumption))
    refine y (ev_assign rfl) rfl ?_
    refine ynil' (kthn (hK9 _ _ ?_))
    clear hK9
    refine cret (kbr (kthr (kthr (kbr (kthr ?_)))))
    first
      | (exfalso; omega; done)
      | (refine kretv Tryz.results50 rfl (L1 := R) zge ?_
         exact ⟨_, ⟨by first | rfl | (rw [hno]; done) | (rw [hrest]; (try simp only [within3, Bool.and_eq_true, Bool.and_eq_false_iff, decide_eq_true_eq, decide_eq_false_iff_not] at *); congr 1; first | (symm; rw [decide_eq_false_iff_not]; omega) | (rw [decide_eq_decide]; omega)), rfl⟩, by first | rfl | (rw [hno]; done) | (rw [hrest]; (try simp only [within3, Bool.and_eq_true, Bool.and_eq_false_iff, decide_eq_true_eq, decide_eq_false_iff_not] at *); congr 1; first | (symm; rw [decide_eq_false_iff_not]; omega) | (rw [decide_eq_decide]; omega))⟩)
   ·(try simp only [sH] at h260)
    refine cskip' (kbn (kthn (hK7 _ _ ?_)))
    clear hK7
    refine creg ?_
    have hok2 : mayT m (k + 1) := mayT_succ hok (within3_iff.1 (by assumption))
    refine y (ev_move rfl) rfl ?_
    refine y (ev_add rfl rfl) rfl ?_
    rw [show IntKind.i64.wrap ((k:Int) + 1) = ((k+1 : Nat) : Int) by rw [wr (by omega) (by omega)]; rfl]
    refine y (ev_assign rfl) rfl ?_
    refine ynil' (kthn ?_)
    exact hL1 (k + 1) (⟨by omega, hok2⟩) (by omega) _ _ zsub zge
  ·(try simp only [sH] at h253)
   refine cexit (kthx (kthx (kbx (kthn ?_))))
   exact ksub zsub zge (hJ1 k ⟨hI1o, by omega⟩)
theorem x14In [Env] {R : List Seg} {mask node : Int} : Con Tryz.prog 82 [i64 mask, i64 node] [] R (Is (.bool (rInB mask node)) []) := by
  refine con_enter Tryz.func82 Tryz.ntmps82 rfl rfl ?_
  refine cseq ?_; intro K1 hK1
  refine creg ?_
  refine y (ev_assign rfl) rfl ?_
  refine ynil' (kthn (hK1 _ _ ?_))
  clear hK1
  refine cseq ?_; intro K2 hK2
  refine cseq ?_; intro K3 hK3
  refine creg ?_
  refine y (ev_move rfl) rfl ?_
  refine y (ev_eql rfl rfl) rfl ?_
  refine ynil' (kthn (hK3 _ _ ?_))
  clear hK3
  refine ccond rfl (fun h268 => ?_) (fun h268 => ?_)
  ·(try simp only [sH] at h268)
   refine cseq ?_; intro K4 hK4
   refine creg ?_
   refine y (ev_move rfl) rfl ?_
   refine y (ev_rem rfl rfl (by decide)) rfl ?_
   refine y (ev_eql rfl rfl) rfl ?_
   refine y (ev_assign rfl) rfl ?_
   refine ynil' (kthn (hK4 _ _ ?_))
   clear hK4
   refine cret (kthr ?_)
   first
     | (exfalso; omega; done)
     | (refine kretv Tryz.results82 rfl (L1 := R) zge ?_
        exact ⟨_, ⟨by first | rfl | (unfold rInB; simp_all; done), rfl⟩, by first | rfl | (unfold rInB; simp_all; done)⟩)
  ·(try simp only [sH] at h268)
   refine cskip' (kthn (hK2 _ _ ?_))
   clear hK2
   refine cseq ?_; intro K5 hK5
   refine creg ?_
   refine y (ev_move rfl) rfl ?_
   refine y (ev_eql rfl rfl) rfl ?_
   refine y (ev_move rfl) rfl ?_
   refine ysplit 12 rfl (fun h276 => ?_) (fun h276 => ?_)
   ·(try simp only [sH] at h276)
    refine yg1 rfl rfl ?_
    refine y (ev_move rfl) rfl ?_
    refine yg1 rfl rfl ?_
    refine y (ev_quo rfl rfl (by decide)) rfl ?_
    refine yg1 rfl rfl ?_
    refine y (ev_eql rfl rfl) rfl ?_
    refine y (ev_pick1 rfl rfl) rfl ?_
    refine y (ev_assign rfl) rfl ?_
    refine ynil' (kthn (hK5 _ _ ?_))
    clear hK5
    refine cret ?_
    first
      | (exfalso; omega; done)
      | (refine kretv Tryz.results82 rfl (L1 := R) zge ?_
         exact ⟨_, ⟨by first | rfl | (unfold rInB; simp_all; done), rfl⟩, by first | rfl | (unfold rInB; simp_all; done)⟩)
   ·(try simp only [sH] at h276)
    refine yg0 rfl rfl rfl rfl ?_
    refine yg0 rfl rfl rfl rfl ?_
    refine yg0 rfl rfl rfl rfl ?_
    refine y (ev_pick0 rfl rfl) rfl ?_
    refine y (ev_assign rfl) rfl ?_
    refine ynil' (kthn (hK5 _ _ ?_))
    clear hK5
    refine cret ?_
    first
      | (exfalso; omega; done)
      | (refine kretv Tryz.results82 rfl (L1 := R) zge ?_
         exact ⟨_, ⟨by first | rfl | (unfold rInB; simp_all; done), rfl⟩, by first | rfl | (unfold rInB; simp_all; done)⟩)
def lsV (b : Nat) : Value := .slice (some ⟨b, 0, none⟩) 2 2
def rwS (s c : Nat) (lv : Value) (W : WitM) : Seg := sc s [ptr c, i64 W.f.epoch, i64 W.f.holder, i64 W.f.mask, i64 W.f.change, lv, i64 W.left, i64 W.wait] 55
def rwL (b : Nat) (f : FactM) : Seg := sc b [i64 f.l0, i64 f.l1] 2
/-- What stands about a witness, where the document's cell may be written. -/
structure RWok (W : WitM) (E : RDev) : Prop where
  gen : 0 ≤ W.c.gen ∧ W.c.gen ≤ 4611686018427387904
  now : W.c.now = -1 ∨ W.c.now = 0 ∨ W.c.now = 1
  f : W.f.ok
  left : 0 ≤ W.left ∧ W.left ≤ 9223372036854775807
  wait : 1 ≤ W.wait ∧ W.wait ≤ 1099511627776
  d : E.ok
  wok : ∀ i bs, (E.write i bs).2.ok
theorem xTick [Env] {R : List Seg} {s c : Nat} {lv : Value} {W : WitM} (hl : 0 ≤ W.left ∧ W.left ≤ 9223372036854775807) : Con Tryz.prog 14 [ptr s] [rwS s c lv W] R (Is (.tuple #[]) [rwS s c lv W.tick]) := by
  unfold rwS WitM.tick
  refine con_enter Tryz.func14 Tryz.ntmps14 rfl rfl ?_
  refine cseq ?_; intro K1 hK1
  refine creg ?_
  refine y (ev_move rfl) rfl ?_
  refine y (ev_nil rfl) rfl ?_
  refine y (ev_fieldAddr 6 rfl Tryz.underlying55 rfl Tryz.sizeOf2) rfl ?_
  refine y (ev_load rfl Tryz.isAgg2 zin rfl) rfl ?_
  refine y (ev_gtr rfl rfl) rfl ?_
  refine ynil' (kthn (hK1 _ _ ?_))
  clear hK1
  refine ccond rfl (fun h289 => ?_) (fun h289 => ?_)
  ·(try simp only [sH] at h289)
   rw [show max (W.left - 1) 0 = W.left - 1 by omega]
   refine creg ?_
   refine y (ev_move rfl) rfl ?_
   refine y (ev_nil rfl) rfl ?_
   refine y (ev_fieldAddr 6 rfl Tryz.underlying55 rfl Tryz.sizeOf2) rfl ?_
   refine y (ev_load rfl Tryz.isAgg2 zin rfl) rfl ?_
   refine y (ev_sub rfl rfl) rfl ?_
   rw [wr (by omega) (by omega)]
   refine y (ev_nil rfl) rfl ?_
   refine y (ev_fieldAddr 6 rfl Tryz.underlying55 rfl Tryz.sizeOf2) rfl ?_
   refine ya0 (ac_store rfl rfl (by first | rfl | exact svVal_one _ _ | assumption) Tryz.sizeOf2 zrp rfl rfl) ?_
   rintro v L' ⟨rfl, rfl⟩
   refine ynil' ?_
   first
     | (exfalso; omega; done)
     | (refine kendv0 Tryz.results14 (L1 := [sc s _ 55] ++ R) zge ?_
        exact ⟨_, ⟨by rfl, rfl⟩, by rfl⟩)
  ·(try simp only [sH] at h289)
   rw [show max (W.left - 1) 0 = W.left by omega]
   refine cskip' ?_
   first
     | (exfalso; omega; done)
     | (refine kendv0 Tryz.results14 (L1 := [sc s _ 55] ++ R) zge ?_
        exact ⟨_, ⟨by rfl, rfl⟩, by rfl⟩)
theorem xPut [Env] {R : List Seg} {s c p la : Nat} {lv lv0 : Value} {W : WitM} {E : RDev} {f : FactM} (hW : RWok W E) (hf : f.ok) (hl : RdV R lv 2 [i64 f.l0, i64 f.l1]) :
    Con Tryz.prog 83 [ptr s, i64 f.epoch, i64 f.holder, i64 f.mask, i64 f.change, lv] [rwS s c lv0 W, rcelP c p W.c, rdev p la E] R
      (Is (i64 (W.putR E f).1) [rwS s c (if (W.putR E f).1 = 0 then lv else lv0) (W.putR E f).2.1, rcelP c p (W.putR E f).2.1.c, rdev p la (W.putR E f).2.2]) := by
  have henc := fact_enc hf
  have hlen := fact_len hf
  have hone : lv.oneCell' = true := by obtain ⟨b, c, rfl⟩ := hl.lenVal; rfl
  refine con_enter Tryz.func83 Tryz.ntmps83 rfl rfl ?_
  unfold rwS
  refine cseq ?_; intro K1 hK1
  refine creg ?_
  refine y (ev_assign rfl) rfl ?_
  refine ynil' (kthn (hK1 _ _ ?_))
  clear hK1
  refine cseq ?_; intro K2 hK2
  refine cdraw 17 [(0, true), (1, true), (2, true), (3, true), (4, true), (5, true), (6, true), (7, true), (8, true), (9, true), (10, false), (11, true), (12, false), (13, true), (14, true), (15, true), (16, true)] (R) Tryz.mixed (by kernel_rfl) zge ?_
  refine hr rfl (ev_move rfl) rfl ?_
  refine hr rfl (ev_move rfl) rfl ?_
  refine hr rfl (ev_move rfl) rfl ?_
  refine hr rfl (ev_move rfl) rfl ?_
  refine hr rfl (ev_move rfl) rfl ?_
  refine hr rfl (ev_ixV hl rfl rfl Tryz.underlying53 Tryz.sizeOf2 (by omega) (by omega)) rfl ?_
  refine hr rfl (ev_loadV 0 hl zge rfl Tryz.isAgg2 rfl rfl) rfl ?_
  refine hr rfl (ev_move rfl) rfl ?_
  refine hr rfl (ev_ixV hl rfl rfl Tryz.underlying53 Tryz.sizeOf2 (by omega) (by omega)) rfl ?_
  refine hr rfl (ev_loadV 1 hl zge rfl Tryz.isAgg2 rfl rfl) rfl ?_
  refine ha rfl (ac_bsliceR rfl Tryz.underlying53 Tryz.sizeOf2 Tryz.zeroValue2 rfl rfl rfl rfl ⟨⟨_, _, rfl, (by first | rfl | simp), (by first | decide | simp)⟩, ⟨⟨_, _, rfl, (by first | rfl | simp), (by first | decide | simp)⟩, ⟨⟨_, _, rfl, (by first | rfl | simp), (by first | decide | simp)⟩, ⟨⟨_, _, rfl, (by first | rfl | simp), (by first | decide | simp)⟩, ⟨⟨_, _, rfl, (by first | rfl | simp), (by first | decide | simp)⟩, ⟨⟨_, _, rfl, (by first | rfl | simp), (by first | decide | simp)⟩, trivial⟩⟩⟩⟩⟩⟩ (by dsimp [fillL, splice, vcells, reps] <;> rfl)) rfl ?_
  rintro v L' ⟨b27, rfl, rfl⟩; refine ⟨zge, ?_⟩
  refine hr rfl (ev_build (zs := _) rfl Tryz.underlying100 Tryz.zeroValue100 rfl (.cons Tryz.sizeOf3 (.cons Tryz.sizeOf53 (.cons Tryz.sizeOf98 .nil))) ⟨⟨_, _, rfl, (by first | rfl | simp), (by first | decide | simp)⟩, ⟨⟨_, _, rfl, (by first | rfl | simp), (by first | decide | simp)⟩, trivial⟩⟩ (by dsimp [fillL, splice, vcells] <;> rfl)) rfl ?_
  refine hcall rfl (rEncode (r := factR f) ?hn311 ?ht311 ?sx311) rfl Tryz.call70 ztk rfl ?_
  case hn311 => exact rdV_in zin rfl rfl
  case ht311 => exact rdV_nil
  case sx311 => exact (fact_may hf).num
  rintro v L' ⟨s29, rfl, ok29, rfl⟩; refine ⟨zge, ?_⟩
  rw [henc] at ok29 ⊢; dsimp only at ok29 ⊢
  have hpd : W.putR E f = ((W.c.putR E (recB (factR f))).1, { W with c := (W.c.putR E (recB (factR f))).2.1, f := if (W.c.putR E (recB (factR f))).1 = 0 then f else W.f }, (W.c.putR E (recB (factR f))).2.2) := rfl
  generalize recB (factR f) = rb at *
  refine hr rfl (ev_move rfl) rfl ?_
  refine hr rfl (ev_extract rfl rfl) rfl ?_
  refine hr rfl (ev_extract rfl rfl) rfl ?_
  refine hr rfl (ev_assign rfl) rfl ?_
  refine hnil ?_
  refine y (ev_assign rfl) rfl ?_
  refine hnoP' (kthn (hK2 _ _ ?_))
  clear hK2
  refine cseq ?_; intro K3 hK3
  refine cdraw 6 [(0, true), (1, true), (2, true), (3, true), (4, true), (5, true)] ([sc s _ 55, svSeg s29 5 (bytesV rb)] ++ R) Tryz.mixed (by kernel_rfl) zge ?_
  refine hr rfl (ev_move rfl) rfl ?_
  refine hr rfl (ev_nil rfl) rfl ?_
  refine hr rfl (ev_fieldAddr 0 rfl Tryz.underlying55 rfl Tryz.sizeOf52) rfl ?_
  refine hr rfl (ev_load rfl Tryz.isAgg52 zin rfl) rfl ?_
  refine hr rfl (ev_move rfl) rfl ?_
  refine hr rfl (ev_toStrB (rdY_sv (L := [svSeg s29 5 (bytesV rb)]) .z ok29).rd.bytes zge rfl Tryz.underlying50 Tryz.underlying9 Tryz.underlying5) rfl ?_
  refine hnil ?_
  refine ycall (rcPut ?pa323 ?pb323 ?pc323 ?pd323) rfl Tryz.call71 ztk rfl ?_
  case pa323 => exact hW.gen
  case pb323 => exact hW.now
  case pc323 => exact hW.d
  case pd323 => exact hW.wok
  rintro v L' ⟨rfl, rfl⟩
  obtain ⟨r, hr0⟩ : ∃ r, W.c.putR E rb = r := ⟨_, rfl⟩
  rw [hr0] at hpd ⊢
  refine y (ev_assign rfl) rfl ?_
  refine hnoP' (kthn (hK3 _ _ ?_))
  clear hK3
  refine cseq ?_; intro K4 hK4
  refine cseq ?_; intro K5 hK5
  refine creg ?_
  refine y (ev_move rfl) rfl ?_
  refine y (ev_eql rfl rfl) rfl ?_
  refine ynil' (kthn (hK5 _ _ ?_))
  clear hK5
  refine ccond rfl (fun h327 => ?_) (fun h327 => ?_)
  ·(try simp only [sH] at h327)
   rw [if_pos h327] at hpd
   have hr1 : r.1 = 0 := h327
   refine cseq ?_; intro K6 hK6
   refine creg ?_
   refine y (ev_move rfl) rfl ?_
   refine y (ev_move rfl) rfl ?_
   refine y (ev_nil rfl) rfl ?_
   refine y (ev_fieldAddr 1 rfl Tryz.underlying55 rfl Tryz.sizeOf2) rfl ?_
   refine ya0 (ac_store rfl rfl (by first | rfl | exact svVal_one _ _ | assumption) Tryz.sizeOf2 zrp rfl rfl) ?_
   rintro v L' ⟨rfl, rfl⟩
   refine ynil' (kthn (hK6 _ _ ?_))
   clear hK6
   refine cseq ?_; intro K7 hK7
   refine creg ?_
   refine y (ev_move rfl) rfl ?_
   refine y (ev_move rfl) rfl ?_
   refine y (ev_nil rfl) rfl ?_
   refine y (ev_fieldAddr 2 rfl Tryz.underlying55 rfl Tryz.sizeOf3) rfl ?_
   refine ya0 (ac_store rfl rfl (by first | rfl | exact svVal_one _ _ | assumption) Tryz.sizeOf3 zrp rfl rfl) ?_
   rintro v L' ⟨rfl, rfl⟩
   refine ynil' (kthn (hK7 _ _ ?_))
   clear hK7
   refine cseq ?_; intro K8 hK8
   refine creg ?_
   refine y (ev_move rfl) rfl ?_
   refine y (ev_move rfl) rfl ?_
   refine y (ev_nil rfl) rfl ?_
   refine y (ev_fieldAddr 3 rfl Tryz.underlying55 rfl Tryz.sizeOf3) rfl ?_
   refine ya0 (ac_store rfl rfl (by first | rfl | exact svVal_one _ _ | assumption) Tryz.sizeOf3 zrp rfl rfl) ?_
   rintro v L' ⟨rfl, rfl⟩
   refine ynil' (kthn (hK8 _ _ ?_))
   clear hK8
   refine cseq ?_; intro K9 hK9
   refine creg ?_
   refine y (ev_move rfl) rfl ?_
   refine y (ev_move rfl) rfl ?_
   refine y (ev_nil rfl) rfl ?_
   refine y (ev_fieldAddr 4 rfl Tryz.underlying55 rfl Tryz.sizeOf2) rfl ?_
   refine ya0 (ac_store rfl rfl (by first | rfl | exact svVal_one _ _ | assumption) Tryz.sizeOf2 zrp rfl rfl) ?_
   rintro v L' ⟨rfl, rfl⟩
   refine ynil' (kthn (hK9 _ _ ?_))
   clear hK9
   refine creg ?_
   refine y (ev_move rfl) rfl ?_
   refine y (ev_move rfl) rfl ?_
   refine y (ev_nil rfl) rfl ?_
   refine y (ev_fieldAddr 5 rfl Tryz.underlying55 rfl Tryz.sizeOf53) rfl ?_
   refine ya0 (ac_store rfl rfl (by first | rfl | exact svVal_one _ _ | assumption) Tryz.sizeOf53 zrp rfl rfl) ?_
   rintro v L' ⟨rfl, rfl⟩
   refine ynil' (kthn (hK4 _ _ ?_))
   clear hK4
   refine cseq ?_; intro K10 hK10
   refine creg ?_
   refine y (ev_move rfl) rfl ?_
   refine y (ev_assign rfl) rfl ?_
   refine ynil' (kthn (hK10 _ _ ?_))
   clear hK10
   refine cret ?_
   first
     | (exfalso; omega; done)
     | (refine kretv Tryz.results83 rfl (L1 := [sc s _ 55, rcelP c p _, rdev p la _] ++ R) zge ?_
        rw [hpd]; dsimp only; (first | rw [if_pos hr1] | rw [if_neg hr1]); exact ⟨_, ⟨rfl, rfl⟩, rfl⟩)
  ·(try simp only [sH] at h327)
   rw [if_neg h327] at hpd
   have hr1 : ¬ r.1 = 0 := h327
   refine cskip' (kthn (hK4 _ _ ?_))
   clear hK4
   refine cseq ?_; intro K11 hK11
   refine creg ?_
   refine y (ev_move rfl) rfl ?_
   refine y (ev_assign rfl) rfl ?_
   refine ynil' (kthn (hK11 _ _ ?_))
   clear hK11
   refine cret ?_
   first
     | (exfalso; omega; done)
     | (refine kretv Tryz.results83 rfl (L1 := [sc s _ 55, rcelP c p _, rdev p la _] ++ R) zge ?_
        rw [hpd]; dsimp only; (first | rw [if_pos hr1] | rw [if_neg hr1]); exact ⟨_, ⟨rfl, rfl⟩, rfl⟩)
end W
end Go.Proofs
