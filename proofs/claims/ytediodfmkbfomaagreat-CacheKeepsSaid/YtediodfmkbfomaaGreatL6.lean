/- A part of the proof: contracts and plain lemmas, each without conditions beyond those that it names. -/
import Derived.Test.YtediodfmkbfomaaGreatL5
set_option linter.unusedVariables false
set_option linter.unusedSimpArgs false
set_option linter.constructorNameAsVariable false
namespace Go.Proofs
open Go Go.Sl
namespace W
set_option linter.unusedVariables false
def KLOpen (r : Int × LogM × Dev) (q : Q3) (u : Value) (L' : List Seg) : Prop :=
 (r.1 ≠ 0 ∧ u = .tuple #[nilP, i64 r.1] ∧ L' = [dev q r.2.2]) ∨ (r.1 = 0 ∧ ∃ l c sl, u = .tuple #[ptr l, i64 0] ∧ itOk sl r.2.1 ∧ L' = [logP l c q sl r.2.1, itS sl r.2.1, celP c q r.2.1.c, dev q r.2.2])
theorem lOpen [Env] {R : List Seg} {q : Q3} {D : Dev} {first n a b : Int} (hD : D.ok) (ha : a ≤ 9223372036854775807) (hb : b ≤ 9223372036854775807) :
   Con Tryz.prog 46 [dp q, i64 first, i64 n, i64 a, i64 b] [dev q D] R (KLOpen (logOpen D first n a b) q) := by
 have hn512 := hD.n
 refine con_enter Tryz.func46 Tryz.ntmps46 rfl rfl ?_
 refine cseq ?_; intro K1 hK1
 refine creg ?_
 refine yas ?_
 refine yas ?_
 refine ynil' (kthn (hK1 _ _ ?_))
 clear hK1
 refine cseq ?_; intro K2 hK2
 refine cseq ?_; intro K3 hK3
 refine creg ?_
 refine ymv ?_
 skip
 ·skip
  refine y (ev_eqlPnil rfl rfl Tryz.underlying25) rfl ?_
  refine ymv ?_
  refine ygo ?_
  refine ymv ?_
  refine ygo ?_
  refine y (ev_lss rfl rfl) rfl ?_
  refine ypb ?_
  refine ymv ?_
  refine ysplit 26 rfl (fun h10 => ?_) (fun h10 => ?_)
  ·(try simp only [sH] at h10)
   refine ygz ?_
   refine ygz ?_
   refine ypa ?_
   refine ymv ?_
   refine ygz ?_
   refine ygz ?_
   refine ygz ?_
   refine ygz ?_
   refine ypa ?_
   refine ymv ?_
   refine ygz ?_
   refine ygz ?_
   refine ygz ?_
   refine ygz ?_
   refine ygz ?_
   refine ygz ?_
   refine ypa ?_
   refine ynil' (kthn (hK3 _ _ ?_))
   clear hK3
   refine ccond1 rfl ?_
   refine cseq ?_; intro K4 hK4
   refine creg ?_
   have hop : logOpen D first n a b = (1, log0 D first n.toNat a b, D) := by unfold logOpen; rw [if_pos (by unfold logArg; omega)]
   refine yas ?_
   refine yas ?_
   refine ynil' (kthn (hK4 _ _ ?_))
   clear hK4
   refine cret (kthr ?_)
   first
     | (exfalso; omega; done)
     | (refine kretv2 Tryz.results46 rfl rfl (L1 := [dev q D] ++ R) zge ?_
        exact ⟨_, .inl ⟨by rw [hop]; show (1 : Int) ≠ 0; decide, by rw [hop], by rw [hop]⟩, rfl⟩)
  ·(try simp only [sH] at h10)
   refine ygo ?_
   refine ymv ?_
   refine ygo ?_
   refine y (ev_lss rfl rfl) rfl ?_
   refine ypb ?_
   refine ymv ?_
   refine ysplit 30 rfl (fun h22 => ?_) (fun h22 => ?_)
   ·(try simp only [sH] at h22)
    refine ygz ?_
    refine ygz ?_
    refine ygz ?_
    refine ygz ?_
    refine ypa ?_
    refine ymv ?_
    refine ygz ?_
    refine ygz ?_
    refine ygz ?_
    refine ygz ?_
    refine ygz ?_
    refine ygz ?_
    refine ypa ?_
    refine ynil' (kthn (hK3 _ _ ?_))
    clear hK3
    refine ccond1 rfl ?_
    refine cseq ?_; intro K5 hK5
    refine creg ?_
    have hop : logOpen D first n a b = (1, log0 D first n.toNat a b, D) := by unfold logOpen; rw [if_pos (by unfold logArg; omega)]
    refine yas ?_
    refine yas ?_
    refine ynil' (kthn (hK5 _ _ ?_))
    clear hK5
    refine cret (kthr ?_)
    first
      | (exfalso; omega; done)
      | (refine kretv2 Tryz.results46 rfl rfl (L1 := [dev q D] ++ R) zge ?_
         exact ⟨_, .inl ⟨by rw [hop]; show (1 : Int) ≠ 0; decide, by rw [hop], by rw [hop]⟩, rfl⟩)
   ·(try simp only [sH] at h22)
    refine ygo ?_
    refine ymv ?_
    refine ygo ?_
    refine ymv ?_
    refine ygo ?_
    refine ycall (secSectors) rfl Tryz.call59 ztk rfl ?_
    rintro v L' ⟨rfl, rfl⟩
    refine ygo ?_
    refine y (ev_gtr rfl rfl) rfl ?_
    refine ypb ?_
    refine ymv ?_
    refine ysplit 36 rfl (fun h34 => ?_) (fun h34 => ?_)
    ·(try simp only [sH] at h34)
     refine ygz ?_
     refine ygz ?_
     refine ygz ?_
     refine ygz ?_
     refine ygz ?_
     refine ygz ?_
     refine ypa ?_
     refine ynil' (kthn (hK3 _ _ ?_))
     clear hK3
     refine ccond1 rfl ?_
     refine cseq ?_; intro K6 hK6
     refine creg ?_
     have hop : logOpen D first n a b = (1, log0 D first n.toNat a b, D) := by unfold logOpen; rw [if_pos (by unfold logArg; omega)]
     refine yas ?_
     refine yas ?_
     refine ynil' (kthn (hK6 _ _ ?_))
     clear hK6
     refine cret (kthr ?_)
     first
       | (exfalso; omega; done)
       | (refine kretv2 Tryz.results46 rfl rfl (L1 := [dev q D] ++ R) zge ?_
          exact ⟨_, .inl ⟨by rw [hop]; show (1 : Int) ≠ 0; decide, by rw [hop], by rw [hop]⟩, rfl⟩)
    ·(try simp only [sH] at h34)
     refine ygo ?_
     refine ymv ?_
     refine ygo ?_
     refine ymv ?_
     refine ygo ?_
     refine ycall (secSectors) rfl Tryz.call59 ztk rfl ?_
     rintro v L' ⟨rfl, rfl⟩
     refine ygo ?_
     refine ymv ?_
     refine ygo ?_
     refine y (ev_sub rfl rfl) rfl ?_
     rw [wr (by omega) (by omega)]
     refine ygo ?_
     refine y (ev_gtr rfl rfl) rfl ?_
     refine ypb ?_
     refine ynil' (kthn (hK3 _ _ ?_))
     clear hK3
     refine ccond rfl (fun h45 => ?_) (fun h45 => ?_)
     ·(try simp only [sH] at h45)
      refine cseq ?_; intro K7 hK7
      refine creg ?_
      have hop : logOpen D first n a b = (1, log0 D first n.toNat a b, D) := by unfold logOpen; rw [if_pos (by unfold logArg; omega)]
      refine yas ?_
      refine yas ?_
      refine ynil' (kthn (hK7 _ _ ?_))
      clear hK7
      refine cret (kthr ?_)
      first
        | (exfalso; omega; done)
        | (refine kretv2 Tryz.results46 rfl rfl (L1 := [dev q D] ++ R) zge ?_
           exact ⟨_, .inl ⟨by rw [hop]; show (1 : Int) ≠ 0; decide, by rw [hop], by rw [hop]⟩, rfl⟩)
     ·(try simp only [sH] at h45)
      obtain ⟨N, rfl⟩ : ∃ N : Nat, n = N := ⟨n.toNat, by omega⟩
      refine cskip' (kthn (hK2 _ _ ?_))
      clear hK2
      refine cseq ?_; intro K8 hK8
      refine cseq ?_; intro K9 hK9
      refine creg ?_
      refine ymv ?_
      refine ymv ?_
      refine ya (ac_bsliceR rfl Tryz.underlying113 Tryz.sizeOf3 Tryz.zeroValue3 rfl rfl rfl rfl ⟨⟨_, _, rfl, (by first | rfl | simp), (by first | decide | simp)⟩, ⟨⟨_, _, rfl, (by first | rfl | simp), (by first | decide | simp)⟩, trivial⟩⟩ (by dsimp [fillL, splice, vcells, reps] <;> rfl)) rfl ?_
      rintro v L' ⟨b46, rfl, rfl⟩
      first
        | refine y (ev_len rfl Tryz.underlying113) rfl ?_
        | refine y (ev_lenSv rfl Tryz.underlying113 (by assumption)) rfl ?_
        | refine y (ev_lenV rfl Tryz.underlying113 (RdV.lenVal (by assumption))) rfl ?_
        | refine y (ev_lenV rfl Tryz.underlying113 (RdB.lenVal (by assumption))) rfl ?_
      refine ymv ?_
      refine ynil' (kthn (hK9 _ _ ?_))
      clear hK9
      have hJ1 : ∀ x : Nat, ((x ≤ 2 ∧ (1 ≤ x → ¬ inRing first N a) ∧ (2 ≤ x → ¬ inRing first N b)) ∧ (x = 2)) → Sk 175 K8 ([(48, i64 x), (47, i64 2), (46, .slice (some ⟨b46, 0, none⟩) 2 2), (0, dp q), (1, i64 first), (2, i64 N), (3, i64 a), (4, i64 b)]) ([sc b46 (intsV [a, b]) 3, dev q D] ++ R) := by
       rintro k ⟨hI1, hX1⟩
       refine hK8 _ _ ?_
       obtain ⟨hk, hka, hkb⟩ := hI1; have hrd : RdV [sc b46 (intsV [a, b]) 3] (.slice (some ⟨b46, 0, none⟩) 2 2) 2 (intsV [a, b]) := rdV_in .z rfl rfl
       subst hX1; have hra := hka (by decide); have hrb := hkb (by decide); clear hka hkb hk; have harg : ¬ logArg D first N a b := by unfold logArg; rintro (h | h | h | h | h | h); all_goals first | omega | exact hra h | exact hrb h
       refine cseq ?_; intro K10 hK10
       refine creg ?_
       refine ymv ?_
       refine ymv ?_
       refine ymv ?_
       refine ycall (cOpen hD) rfl Tryz.call60 ztk rfl ?_
       rintro v L' hop
       rcases hop with ⟨he0, rfl, rfl⟩ | ⟨he0, c67, rfl, rfl⟩
       ·skip
        refine ymv ?_
        refine yxt ?_
        refine yxt ?_
        refine yas ?_
        refine yas ?_
        refine ynil' (kthn (hK10 _ _ ?_))
        clear hK10
        refine cseq ?_; intro K11 hK11
        refine cseq ?_; intro K12 hK12
        refine creg ?_
        refine ymv ?_
        refine y (ev_neq rfl rfl) rfl ?_
        try rw [show (!decide (openE D a b = 0)) = true by simp [he0]]
        refine ynil' (kthn (hK12 _ _ ?_))
        clear hK12
        refine ccond1 rfl ?_
        refine cseq ?_; intro K13 hK13
        refine creg ?_
        have hop : logOpen D first N a b = (openE D a b, log0 D first (N : Int).toNat a b, D) := by unfold logOpen; rw [if_neg harg, if_pos he0]
        refine ymv ?_
        refine yas ?_
        refine yas ?_
        refine ynil' (kthn (hK13 _ _ ?_))
        clear hK13
        refine cret (kthr ?_)
        first
          | (exfalso; omega; done)
          | (refine kretv2 Tryz.results46 rfl rfl (L1 := [dev q D] ++ R) zge ?_
             exact ⟨_, .inl ⟨by rw [hop]; exact he0, by rw [hop], by rw [hop]⟩, rfl⟩)
       ·skip
        refine ymv ?_
        refine yxt ?_
        refine yxt ?_
        refine yas ?_
        refine yas ?_
        refine ynil' (kthn (hK10 _ _ ?_))
        clear hK10
        refine cseq ?_; intro K14 hK14
        refine cseq ?_; intro K15 hK15
        refine creg ?_
        refine ymv ?_
        refine y (ev_neq rfl rfl) rfl ?_
        try rw [show (!decide (openE D a b = 0)) = true by simp [he0]]
        refine ynil' (kthn (hK15 _ _ ?_))
        clear hK15
        refine ccond0 rfl ?_
        refine cskip' (kthn (hK14 _ _ ?_))
        clear hK14
        refine cseq ?_; intro K16 hK16
        refine creg ?_
        refine ymv ?_
        refine ymv ?_
        refine ymv ?_
        refine ymv ?_
        refine y (ev_build (vs := [dp q, i64 first, i64 N, ptr c67, i64 1, i64 0, i64 0, nilS]) (zs := _) rfl Tryz.underlying124 Tryz.zeroValue124 rfl (.cons Tryz.sizeOf25 (.cons Tryz.sizeOf3 (.cons Tryz.sizeOf3 (.cons Tryz.sizeOf119 (.cons Tryz.sizeOf2 (.cons Tryz.sizeOf2 (.cons Tryz.sizeOf2 (.cons Tryz.sizeOf122 .nil)))))))) ⟨⟨_, _, rfl, (by first | rfl | simp), (by first | decide | simp)⟩, ⟨⟨_, _, rfl, (by first | rfl | simp), (by first | decide | simp)⟩, ⟨⟨_, _, rfl, (by first | rfl | simp), (by first | decide | simp)⟩, ⟨⟨_, _, rfl, (by first | rfl | simp), (by first | decide | simp)⟩, ⟨⟨_, _, rfl, (by first | rfl | simp), (by first | decide | simp)⟩, trivial⟩⟩⟩⟩⟩ (by dsimp [fillL, splice, vcells] <;> rfl)) rfl ?_
        refine ya (ac_box (vs := [dp q, i64 first, i64 N, ptr c67, i64 1, i64 0, i64 0, nilS]) rfl rfl) rfl ?_
        rintro v L' ⟨b78, rfl, rfl⟩
        refine yas ?_
        refine ynil' (kthn (hK16 _ _ ?_))
        clear hK16
        refine cseq ?_; intro K17 hK17
        have hJr16 : ∀ x : Unit, (True) → Sk 175 K17 ([(0, dp q), (14, ptr c67), (16, ptr b78)]) ([sc b78 [dp q, i64 first, i64 N, ptr c67, i64 (headOf (openC D a b).text).1, i64 (headOf (openC D a b).text).2.1, i64 (headOf (openC D a b).text).2.2, nilS] 124, celP c67 q (openC D a b), dev q D] ++ R) := by
         rintro x hIr16
         refine hK17 _ _ ?_
         obtain ⟨hd1, hd2, hd3⟩ := headOf_ok (openC D a b).text
         obtain ⟨ho, hho⟩ : ∃ z, headOf (openC D a b).text = z := ⟨_, rfl⟩
         rw [hho] at hd1 hd2 hd3 ⊢
         have hl0 : log0 D first (N : Int).toNat a b = ⟨first, N, openC D a b, ho.1, ho.2.1 + 1, ho.2.2, scanL D first N ho.2.1 N ho.1 ho.2.2⟩ := by unfold log0; rw [hho]; rfl
         refine cseq ?_; intro K18 hK18
         refine cseq ?_; intro K19 hK19
         refine creg ?_
         refine ymv ?_
         refine yni ?_
         refine y (ev_fieldAddr 5 rfl Tryz.underlying124 rfl Tryz.sizeOf2) rfl ?_
         refine y (ev_load rfl Tryz.isAgg2 zin rfl) rfl ?_
         refine y (ev_eql rfl rfl) rfl ?_
         refine ynil' (kthn (hK19 _ _ ?_))
         clear hK19
         refine ccond rfl (fun h86 => ?_) (fun h86 => ?_)
         ·(try simp only [sH] at h86)
          have hop : logOpen D first N a b = (22, log0 D first (N : Int).toNat a b, D) := by unfold logOpen; rw [if_neg harg, if_neg (by rw [he0]; decide), hho, if_pos h86]
          refine cseq ?_; intro K20 hK20
          refine creg ?_
          refine yas ?_
          refine yas ?_
          refine ynil' (kthn (hK20 _ _ ?_))
          clear hK20
          refine cret (kthr ?_)
          first
            | (exfalso; omega; done)
            | (refine kretv2 Tryz.results46 rfl rfl (L1 := [dev q D] ++ R) zge ?_
               exact ⟨_, .inl ⟨by rw [hop]; show (22 : Int) ≠ 0; decide, by rw [hop], by rw [hop]⟩, rfl⟩)
         ·(try simp only [sH] at h86)
          have hok0 := log0_ok hD harg he0 (by rw [hho]; exact h86)
          rw [show log0 D first N a b = log0 D first (N : Int).toNat a b from rfl, hl0] at hok0
          obtain ⟨w, hw⟩ : ∃ w, (openC D a b).put D (recB (headR ho.1 (ho.2.1 + 1) ho.2.2)) = w := ⟨_, rfl⟩
          have hput : LogM.put ⟨first, N, openC D a b, ho.1, ho.2.1 + 1, ho.2.2, scanL D first N ho.2.1 N ho.1 ho.2.2⟩ D ho.1 ho.2.2 = (w.1, ⟨first, N, w.2.1, ho.1, ho.2.1 + 1, ho.2.2, scanL D first N ho.2.1 N ho.1 ho.2.2⟩, w.2.2) := by unfold LogM.put; dsimp only; rw [hw]
          have hop : logOpen D first N a b = (w.1, ⟨first, N, w.2.1, ho.1, ho.2.1 + 1, ho.2.2, scanL D first N ho.2.1 N ho.1 ho.2.2⟩, w.2.2) := by unfold logOpen; rw [if_neg harg, if_neg (by rw [he0]; decide), if_neg (by rw [hho]; exact h86), hl0]; exact hput
          refine cskip' (kthn (hK18 _ _ ?_))
          clear hK18
          refine cseq ?_; intro K21 hK21
          refine creg ?_
          refine yreP (L' := [logP b78 c67 q none ⟨first, N, openC D a b, ho.1, ho.2.1, ho.2.2, []⟩, itS none ⟨first, N, openC D a b, ho.1, ho.2.1, ho.2.2, []⟩, celP c67 q (openC D a b), dev q D] ++ R) (by simp [logP, itS, svSeg, svVal]) ?_
          refine ymv ?_
          refine ycall (lScan ?sa90 ?sb90 ?sc90 ?sd90 ?se90 ?sf90 ?sg90) rfl Tryz.call64 ztk rfl ?_
          case sa90 => exact hD
          case sb90 => exact (openC_ok he0).2
          case sc90 => exact ⟨rfl, rfl⟩
          case sd90 => rfl
          case se90 => (show 2 ≤ N; omega)
          case sf90 => exact ⟨by dsimp only; omega, by dsimp only; omega⟩
          case sg90 => exact hd1
          rintro v L' ⟨sl153, Z153, rfl, hZ153, okz153, rfl⟩
          subst hZ153
          unfold logP
          dsimp only at okz153 ⊢
          refine ynil' (kthn (hK21 _ _ ?_))
          clear hK21
          refine cseq ?_; intro K22 hK22
          refine creg ?_
          refine ymv ?_
          refine yni ?_
          refine y (ev_fieldAddr 5 rfl Tryz.underlying124 rfl Tryz.sizeOf2) rfl ?_
          refine y (ev_load rfl Tryz.isAgg2 zin rfl) rfl ?_
          refine y (ev_add rfl rfl) rfl ?_
          rw [wr (by omega) (by omega)]
          refine yni ?_
          refine y (ev_fieldAddr 5 rfl Tryz.underlying124 rfl Tryz.sizeOf2) rfl ?_
          refine ya0 (ac_store rfl rfl (by first | rfl | exact svVal_one _ _ | assumption) Tryz.sizeOf2 zrp rfl rfl) ?_
          rintro v L' ⟨rfl, rfl⟩
          refine ynil' (kthn (hK22 _ _ ?_))
          clear hK22
          refine cseq ?_; intro K23 hK23
          refine cseq ?_; intro K24 hK24
          refine cdraw 9 [(0, true), (1, true), (2, true), (3, true), (4, true), (5, true), (6, true), (7, true), (8, true)] ([sc b78 _ 124] ++ R) Tryz.mixed (by kernel_rfl) zge ?_
          refine hr rfl (ev_move rfl) rfl ?_
          refine hr rfl (ev_move rfl) rfl ?_
          refine hr rfl (ev_nil rfl) rfl ?_
          refine hr rfl (ev_fieldAddr 4 rfl Tryz.underlying124 rfl Tryz.sizeOf2) rfl ?_
          refine hr rfl (ev_load rfl Tryz.isAgg2 zin rfl) rfl ?_
          refine hr rfl (ev_move rfl) rfl ?_
          refine hr rfl (ev_nil rfl) rfl ?_
          refine hr rfl (ev_fieldAddr 6 rfl Tryz.underlying124 rfl Tryz.sizeOf2) rfl ?_
          refine hr rfl (ev_load rfl Tryz.isAgg2 zin rfl) rfl ?_
          refine hnil ?_
          refine ycall (lPut (L := ⟨first, N, openC D a b, ho.1, ho.2.1 + 1, ho.2.2, scanL D first N ho.2.1 N ho.1 ho.2.2⟩) (sl := sl153) hok0 ⟨by omega, by omega⟩ hd3) rfl Tryz.call65 ztk rfl ?_
          rintro v L' ⟨rfl, rfl⟩
          rw [hput]
          refine yas ?_
          refine hnoP' (kthn (hK24 _ _ ?_))
          clear hK24
          refine cseq ?_; intro K25 hK25
          refine creg ?_
          refine ymv ?_
          refine y (ev_neq rfl rfl) rfl ?_
          refine ynil' (kthn (hK25 _ _ ?_))
          clear hK25
          refine ccond rfl (fun h112 => ?_) (fun h112 => ?_)
          ·(try simp only [sH] at h112)
           refine cseq ?_; intro K26 hK26
           refine creg ?_
           refine ymv ?_
           refine yas ?_
           refine yas ?_
           refine ynil' (kthn (hK26 _ _ ?_))
           clear hK26
           refine cret (kthr ?_)
           first
             | (exfalso; omega; done)
             | (refine kretv2 Tryz.results46 rfl rfl (L1 := [dev q w.2.2] ++ R) zge ?_
                exact ⟨_, .inl ⟨by rw [hop]; assumption, by rw [hop], by rw [hop]⟩, rfl⟩)
          ·(try simp only [sH] at h112)
           refine cskip' (kthn (hK23 _ _ ?_))
           clear hK23
           refine cseq ?_; intro K27 hK27
           refine creg ?_
           refine ymv ?_
           refine yas ?_
           refine yas ?_
           refine ynil' (kthn (hK27 _ _ ?_))
           clear hK27
           refine cret ?_
           first
             | (exfalso; omega; done)
             | (refine kretv2 Tryz.results46 rfl rfl (L1 := [logP b78 c67 q sl153 ⟨first, N, w.2.1, ho.1, ho.2.1 + 1, ho.2.2, scanL D first N ho.2.1 N ho.1 ho.2.2⟩, itS sl153 ⟨first, N, w.2.1, ho.1, ho.2.1 + 1, ho.2.2, scanL D first N ho.2.1 N ho.1 ho.2.2⟩, celP c67 q w.2.1, dev q w.2.2] ++ R) zge ?_
                exact ⟨_, .inr ⟨by rw [hop]; simp_all, b78, c67, sl153, rfl, by rw [hop]; exact okz153, by rw [hop]⟩, rfl⟩)
        clear hK17
        refine cseq ?_; intro K28 hK28
        refine creg ?_
        refine ymv ?_
        refine ycall (cGet) rfl Tryz.call62 ztk rfl ?_
        rintro v L' ⟨rfl, rfl⟩
        refine ya (ac_toBytesY rfl Tryz.underlying9 Tryz.underlying22 Tryz.underlying5) rfl ?_
        rintro v L' ⟨b82, c82, sp82, fr82, rfl, hc82, rfl⟩
        refine ycall (cDecode (bs := (openC D a b).text) ?hb122) rfl Tryz.call61 ztk rfl ?_
        case hb122 => exact rdY_in zin hc82
        rintro v L' ⟨sn83, st83, rfl, ok83, rfl⟩
        obtain ⟨de, hde⟩ : ∃ z, decM (openC D a b).text = z := ⟨_, rfl⟩
        obtain ⟨rc, er⟩ := de
        have hbad := headOf_bad hde
        have hgd := headOf_good hde
        rw [hde] at ok83 ⊢
        dsimp only at ok83 ⊢
        have okn := ok83.n
        have okt := ok83.t
        unfold recV
        have hvn : RdV [svSeg sn83 2 (intsV rc.nums)] (svVal sn83 rc.nums.length) rc.nums.length (intsV rc.nums) := rdV_sv .z okn
        refine ymv ?_
        refine yxt ?_
        refine yxt ?_
        refine ya (ac_alloc Tryz.zeroValue126 rfl) rfl ?_
        rintro v L' ⟨b17, rfl, rfl⟩
        refine ya0 (ac_storeAll rfl rfl (by first | exact bytesV_one _ | (simp [Value.oneCell']; done) | (simp only [List.forall_mem_cons, List.not_mem_nil, false_implies, implies_true, svVal_one, and_true, true_and, and_self]; first | done | simp [Value.oneCell'])) Tryz.sizeOf126 zrp (by first | rfl | assumption | (simp [*]; done) | (simp [*]; omega)) (by first | rfl | assumption | (simp [*]; done) | (simp [*]; omega))) ?_
        rintro v L' ⟨rfl, rfl⟩
        refine yas ?_
        refine ynil' (kthn (hK28 _ _ ?_))
        clear hK28
        refine cseq ?_; intro K29 hK29
        refine creg ?_
        refine ymv ?_
        refine y (ev_eql rfl rfl) rfl ?_
        refine ymv ?_
        refine ysplit 88 rfl (fun h132 => ?_) (fun h132 => ?_)
        ·(try simp only [sH] at h132)
         refine ygo ?_
         refine y (ev_fieldAddr 0 rfl Tryz.underlying126 rfl Tryz.sizeOf3) rfl ?_
         refine ygo ?_
         refine y (ev_load rfl Tryz.isAgg3 zin rfl) rfl ?_
         refine ygo ?_
         refine y (ev_eql rfl rfl) rfl ?_
         refine ypa ?_
         refine ymv ?_
         refine ysplit 93 rfl (fun h138 => ?_) (fun h138 => ?_)
         ·(try simp only [sH] at h138)
          refine ygo ?_
          refine y (ev_fieldAddr 1 rfl Tryz.underlying126 rfl Tryz.sizeOf56) rfl ?_
          refine ygo ?_
          refine y (ev_load rfl Tryz.isAgg56 zin rfl) rfl ?_
          refine ygo ?_
          first
            | refine y (ev_len rfl Tryz.underlying56) rfl ?_
            | refine y (ev_lenSv rfl Tryz.underlying56 (by assumption)) rfl ?_
            | refine y (ev_lenV rfl Tryz.underlying56 (RdV.lenVal (by assumption))) rfl ?_
            | refine y (ev_lenV rfl Tryz.underlying56 (RdB.lenVal (by assumption))) rfl ?_
          refine ygo ?_
          refine y (ev_eql rfl rfl) rfl ?_
          refine ypa ?_
          refine ymv ?_
          refine ysplit 99 rfl (fun h145 => ?_) (fun h145 => ?_)
          ·(try simp only [sH] at h145)
           refine ygo ?_
           refine y (ev_fieldAddr 2 rfl Tryz.underlying126 rfl Tryz.sizeOf98) rfl ?_
           refine ygo ?_
           refine y (ev_load rfl Tryz.isAgg98 zin rfl) rfl ?_
           refine ygo ?_
           first
             | refine y (ev_len rfl Tryz.underlying98) rfl ?_
             | refine y (ev_lenSv rfl Tryz.underlying98 (by assumption)) rfl ?_
             | refine y (ev_lenV rfl Tryz.underlying98 (RdV.lenVal (by assumption))) rfl ?_
             | refine y (ev_lenV rfl Tryz.underlying98 (RdB.lenVal (by assumption))) rfl ?_
           refine ygo ?_
           refine y (ev_eql rfl rfl) rfl ?_
           refine ypa ?_
           refine ymv ?_
           refine ysplit 105 rfl (fun h152 => ?_) (fun h152 => ?_)
           ·(try simp only [sH] at h152)
            refine ygo ?_
            refine y (ev_fieldAddr 1 rfl Tryz.underlying126 rfl Tryz.sizeOf56) rfl ?_
            refine ygo ?_
            refine y (ev_load rfl Tryz.isAgg56 zin rfl) rfl ?_
            refine ygo ?_
            refine y (ev_ixV hvn rfl rfl Tryz.underlying56 Tryz.sizeOf2 (by omega) (by omega)) rfl ?_
            refine ygo ?_
            refine y (ev_loadV 0 hvn zge rfl Tryz.isAgg2 rfl (intsV_get (getd_get (d := 0) (by omega)))) rfl ?_
            refine ygo ?_
            refine ycall (lWithin) rfl Tryz.call63 ztk rfl ?_
            rintro v L' ⟨rfl, rfl⟩
            refine ypa ?_
            refine ymv ?_
            refine ysplit 112 rfl (fun h160 => ?_) (fun h160 => ?_)
            ·(try simp only [sH] at h160)
             refine ygo ?_
             refine y (ev_fieldAddr 1 rfl Tryz.underlying126 rfl Tryz.sizeOf56) rfl ?_
             refine ygo ?_
             refine y (ev_load rfl Tryz.isAgg56 zin rfl) rfl ?_
             refine ygo ?_
             refine y (ev_ixV hvn rfl rfl Tryz.underlying56 Tryz.sizeOf2 (by omega) (by omega)) rfl ?_
             refine ygo ?_
             refine y (ev_loadV 1 hvn zge rfl Tryz.isAgg2 (by simp) (intsV_get (getd_get (d := 0) (by omega)))) rfl ?_
             refine ygo ?_
             refine ycall (lWithin) rfl Tryz.call63 ztk rfl ?_
             rintro v L' ⟨rfl, rfl⟩
             refine ypa ?_
             refine ymv ?_
             refine ysplit 119 rfl (fun h168 => ?_) (fun h168 => ?_)
             ·(try simp only [sH] at h168)
              refine ygo ?_
              refine y (ev_fieldAddr 1 rfl Tryz.underlying126 rfl Tryz.sizeOf56) rfl ?_
              refine ygo ?_
              refine y (ev_load rfl Tryz.isAgg56 zin rfl) rfl ?_
              refine ygo ?_
              refine y (ev_ixV hvn rfl rfl Tryz.underlying56 Tryz.sizeOf2 (by omega) (by omega)) rfl ?_
              refine ygo ?_
              refine y (ev_loadV 2 hvn zge rfl Tryz.isAgg2 (by simp) (intsV_get (getd_get (d := 0) (by omega)))) rfl ?_
              refine ygo ?_
              refine ycall (lWithin) rfl Tryz.call63 ztk rfl ?_
              rintro v L' ⟨rfl, rfl⟩
              refine ypa ?_
              refine ynil' (kthn (hK29 _ _ ?_))
              clear hK29
              refine ccond rfl (fun h175 => ?_) (fun h175 => ?_)
              ·(try simp only [sH] at h175)
               have hho := hgd (by assumption) (by assumption) (by assumption) (by assumption) (by assumption) (by assumption) h175
               refine cdraw 23 [(0, true), (1, true), (2, true), (3, true), (4, true), (5, true), (6, true), (7, true), (8, true), (9, true), (10, true), (11, true), (12, true), (13, true), (14, true), (15, true), (16, true), (17, false), (18, true), (19, true), (20, false), (21, true), (22, true)] ([sc b17 [i64 rc.kind, svVal sn83 rc.nums.length, svVal st83 rc.texts.length] 126, svSeg sn83 2 (intsV rc.nums)] ++ R) Tryz.mixed (by kernel_rfl) zge ?_
               refine hr rfl (ev_move rfl) rfl ?_
               refine hr rfl (ev_move rfl) rfl ?_
               refine hr rfl (ev_move rfl) rfl ?_
               refine hr rfl (ev_fieldAddr 1 rfl Tryz.underlying126 rfl Tryz.sizeOf56) rfl ?_
               refine hr rfl (ev_load rfl Tryz.isAgg56 zin rfl) rfl ?_
               refine hr rfl (ev_ixV hvn rfl rfl Tryz.underlying56 Tryz.sizeOf2 (by omega) (by omega)) rfl ?_
               refine hr rfl (ev_loadV 0 hvn zge rfl Tryz.isAgg2 rfl (intsV_get (getd_get (d := 0) (by omega)))) rfl ?_
               refine hr rfl (ev_fieldAddr 1 rfl Tryz.underlying126 rfl Tryz.sizeOf56) rfl ?_
               refine hr rfl (ev_load rfl Tryz.isAgg56 zin rfl) rfl ?_
               refine hr rfl (ev_ixV hvn rfl rfl Tryz.underlying56 Tryz.sizeOf2 (by omega) (by omega)) rfl ?_
               refine hr rfl (ev_loadV 1 hvn zge rfl Tryz.isAgg2 (by simp) (intsV_get (getd_get (d := 0) (by omega)))) rfl ?_
               refine hr rfl (ev_fieldAddr 1 rfl Tryz.underlying126 rfl Tryz.sizeOf56) rfl ?_
               refine hr rfl (ev_load rfl Tryz.isAgg56 zin rfl) rfl ?_
               refine hr rfl (ev_ixV hvn rfl rfl Tryz.underlying56 Tryz.sizeOf2 (by omega) (by omega)) rfl ?_
               refine hr rfl (ev_loadV 2 hvn zge rfl Tryz.isAgg2 (by simp) (intsV_get (getd_get (d := 0) (by omega)))) rfl ?_
               refine hr rfl (ev_nil rfl) rfl ?_
               refine hr rfl (ev_fieldAddr 4 rfl Tryz.underlying124 rfl Tryz.sizeOf2) rfl ?_
               refine haN rfl (ac_store rfl rfl (by first | rfl | exact svVal_one _ _ | assumption) Tryz.sizeOf2 zrp rfl rfl) ?_
               rintro v L' ⟨rfl, rfl⟩; refine ⟨zge, ?_⟩
               refine hr rfl (ev_nil rfl) rfl ?_
               refine hr rfl (ev_fieldAddr 5 rfl Tryz.underlying124 rfl Tryz.sizeOf2) rfl ?_
               refine haN rfl (ac_store rfl rfl (by first | rfl | exact svVal_one _ _ | assumption) Tryz.sizeOf2 zrp rfl rfl) ?_
               rintro v L' ⟨rfl, rfl⟩; refine ⟨zge, ?_⟩
               refine hr rfl (ev_nil rfl) rfl ?_
               refine hr rfl (ev_fieldAddr 6 rfl Tryz.underlying124 rfl Tryz.sizeOf2) rfl ?_
               refine hnil ?_
               refine ya0 (ac_store rfl rfl (by first | rfl | exact svVal_one _ _ | assumption) Tryz.sizeOf2 zrp rfl rfl) ?_
               rintro v L' ⟨rfl, rfl⟩
               refine hnoP' (kthn ?_)
               first | rw [hho] at hJr16 | rw [hbad (.inl (by assumption))] at hJr16 | rw [hbad (.inr (.inl (by assumption)))] at hJr16 | rw [hbad (.inr (.inr (.inl (by assumption))))] at hJr16 | rw [hbad (.inr (.inr (.inr (.inl (by assumption)))))] at hJr16 | rw [hbad (.inr (.inr (.inr (.inr (.inl (by assumption))))))] at hJr16 | rw [hbad (.inr (.inr (.inr (.inr (.inr (.inl (by assumption)))))))] at hJr16 | rw [hbad (.inr (.inr (.inr (.inr (.inr (.inr (by assumption)))))))] at hJr16
               exact ksub zsub zge (hJr16 () trivial)
              ·(try simp only [sH] at h175)
               refine cskip' (kthn ?_)
               first | rw [hho] at hJr16 | rw [hbad (.inl (by assumption))] at hJr16 | rw [hbad (.inr (.inl (by assumption)))] at hJr16 | rw [hbad (.inr (.inr (.inl (by assumption))))] at hJr16 | rw [hbad (.inr (.inr (.inr (.inl (by assumption)))))] at hJr16 | rw [hbad (.inr (.inr (.inr (.inr (.inl (by assumption))))))] at hJr16 | rw [hbad (.inr (.inr (.inr (.inr (.inr (.inl (by assumption)))))))] at hJr16 | rw [hbad (.inr (.inr (.inr (.inr (.inr (.inr (by assumption)))))))] at hJr16
               exact ksub zsub zge (hJr16 () trivial)
             ·(try simp only [sH] at h168)
              refine ygz ?_
              refine ygz ?_
              refine ygz ?_
              refine ygz ?_
              refine ygz ?_
              refine ypb ?_
              refine ynil' (kthn (hK29 _ _ ?_))
              clear hK29
              refine ccond0 rfl ?_
              refine cskip' (kthn ?_)
              first | rw [hho] at hJr16 | rw [hbad (.inl (by assumption))] at hJr16 | rw [hbad (.inr (.inl (by assumption)))] at hJr16 | rw [hbad (.inr (.inr (.inl (by assumption))))] at hJr16 | rw [hbad (.inr (.inr (.inr (.inl (by assumption)))))] at hJr16 | rw [hbad (.inr (.inr (.inr (.inr (.inl (by assumption))))))] at hJr16 | rw [hbad (.inr (.inr (.inr (.inr (.inr (.inl (by assumption)))))))] at hJr16 | rw [hbad (.inr (.inr (.inr (.inr (.inr (.inr (by assumption)))))))] at hJr16
              exact ksub zsub zge (hJr16 () trivial)
            ·(try simp only [sH] at h160)
             refine ygz ?_
             refine ygz ?_
             refine ygz ?_
             refine ygz ?_
             refine ygz ?_
             refine ypb ?_
             refine ymv ?_
             refine ygz ?_
             refine ygz ?_
             refine ygz ?_
             refine ygz ?_
             refine ygz ?_
             refine ypb ?_
             refine ynil' (kthn (hK29 _ _ ?_))
             clear hK29
             refine ccond0 rfl ?_
             refine cskip' (kthn ?_)
             first | rw [hho] at hJr16 | rw [hbad (.inl (by assumption))] at hJr16 | rw [hbad (.inr (.inl (by assumption)))] at hJr16 | rw [hbad (.inr (.inr (.inl (by assumption))))] at hJr16 | rw [hbad (.inr (.inr (.inr (.inl (by assumption)))))] at hJr16 | rw [hbad (.inr (.inr (.inr (.inr (.inl (by assumption))))))] at hJr16 | rw [hbad (.inr (.inr (.inr (.inr (.inr (.inl (by assumption)))))))] at hJr16 | rw [hbad (.inr (.inr (.inr (.inr (.inr (.inr (by assumption)))))))] at hJr16
             exact ksub zsub zge (hJr16 () trivial)
           ·(try simp only [sH] at h152)
            refine ygz ?_
            refine ygz ?_
            refine ygz ?_
            refine ygz ?_
            refine ygz ?_
            refine ypb ?_
            refine ymv ?_
            refine ygz ?_
            refine ygz ?_
            refine ygz ?_
            refine ygz ?_
            refine ygz ?_
            refine ypb ?_
            refine ymv ?_
            refine ygz ?_
            refine ygz ?_
            refine ygz ?_
            refine ygz ?_
            refine ygz ?_
            refine ypb ?_
            refine ynil' (kthn (hK29 _ _ ?_))
            clear hK29
            refine ccond0 rfl ?_
            refine cskip' (kthn ?_)
            first | rw [hho] at hJr16 | rw [hbad (.inl (by assumption))] at hJr16 | rw [hbad (.inr (.inl (by assumption)))] at hJr16 | rw [hbad (.inr (.inr (.inl (by assumption))))] at hJr16 | rw [hbad (.inr (.inr (.inr (.inl (by assumption)))))] at hJr16 | rw [hbad (.inr (.inr (.inr (.inr (.inl (by assumption))))))] at hJr16 | rw [hbad (.inr (.inr (.inr (.inr (.inr (.inl (by assumption)))))))] at hJr16 | rw [hbad (.inr (.inr (.inr (.inr (.inr (.inr (by assumption)))))))] at hJr16
            exact ksub zsub zge (hJr16 () trivial)
          ·(try simp only [sH] at h145)
           refine ygz ?_
           refine ygz ?_
           refine ygz ?_
           refine ygz ?_
           refine ypb ?_
           refine ymv ?_
           refine ygz ?_
           refine ygz ?_
           refine ygz ?_
           refine ygz ?_
           refine ygz ?_
           refine ypb ?_
           refine ymv ?_
           refine ygz ?_
           refine ygz ?_
           refine ygz ?_
           refine ygz ?_
           refine ygz ?_
           refine ypb ?_
           refine ymv ?_
           refine ygz ?_
           refine ygz ?_
           refine ygz ?_
           refine ygz ?_
           refine ygz ?_
           refine ypb ?_
           refine ynil' (kthn (hK29 _ _ ?_))
           clear hK29
           refine ccond0 rfl ?_
           refine cskip' (kthn ?_)
           first | rw [hho] at hJr16 | rw [hbad (.inl (by assumption))] at hJr16 | rw [hbad (.inr (.inl (by assumption)))] at hJr16 | rw [hbad (.inr (.inr (.inl (by assumption))))] at hJr16 | rw [hbad (.inr (.inr (.inr (.inl (by assumption)))))] at hJr16 | rw [hbad (.inr (.inr (.inr (.inr (.inl (by assumption))))))] at hJr16 | rw [hbad (.inr (.inr (.inr (.inr (.inr (.inl (by assumption)))))))] at hJr16 | rw [hbad (.inr (.inr (.inr (.inr (.inr (.inr (by assumption)))))))] at hJr16
           exact ksub zsub zge (hJr16 () trivial)
         ·(try simp only [sH] at h138)
          refine ygz ?_
          refine ygz ?_
          refine ygz ?_
          refine ygz ?_
          refine ypb ?_
          refine ymv ?_
          refine ygz ?_
          refine ygz ?_
          refine ygz ?_
          refine ygz ?_
          refine ypb ?_
          refine ymv ?_
          refine ygz ?_
          refine ygz ?_
          refine ygz ?_
          refine ygz ?_
          refine ygz ?_
          refine ypb ?_
          refine ymv ?_
          refine ygz ?_
          refine ygz ?_
          refine ygz ?_
          refine ygz ?_
          refine ygz ?_
          refine ypb ?_
          refine ymv ?_
          refine ygz ?_
          refine ygz ?_
          refine ygz ?_
          refine ygz ?_
          refine ygz ?_
          refine ypb ?_
          refine ynil' (kthn (hK29 _ _ ?_))
          clear hK29
          refine ccond0 rfl ?_
          refine cskip' (kthn ?_)
          first | rw [hho] at hJr16 | rw [hbad (.inl (by assumption))] at hJr16 | rw [hbad (.inr (.inl (by assumption)))] at hJr16 | rw [hbad (.inr (.inr (.inl (by assumption))))] at hJr16 | rw [hbad (.inr (.inr (.inr (.inl (by assumption)))))] at hJr16 | rw [hbad (.inr (.inr (.inr (.inr (.inl (by assumption))))))] at hJr16 | rw [hbad (.inr (.inr (.inr (.inr (.inr (.inl (by assumption)))))))] at hJr16 | rw [hbad (.inr (.inr (.inr (.inr (.inr (.inr (by assumption)))))))] at hJr16
          exact ksub zsub zge (hJr16 () trivial)
        ·(try simp only [sH] at h132)
         refine ygz ?_
         refine ygz ?_
         refine ygz ?_
         refine ypb ?_
         refine ymv ?_
         refine ygz ?_
         refine ygz ?_
         refine ygz ?_
         refine ygz ?_
         refine ypb ?_
         refine ymv ?_
         refine ygz ?_
         refine ygz ?_
         refine ygz ?_
         refine ygz ?_
         refine ypb ?_
         refine ymv ?_
         refine ygz ?_
         refine ygz ?_
         refine ygz ?_
         refine ygz ?_
         refine ygz ?_
         refine ypb ?_
         refine ymv ?_
         refine ygz ?_
         refine ygz ?_
         refine ygz ?_
         refine ygz ?_
         refine ygz ?_
         refine ypb ?_
         refine ymv ?_
         refine ygz ?_
         refine ygz ?_
         refine ygz ?_
         refine ygz ?_
         refine ygz ?_
         refine ypb ?_
         refine ynil' (kthn (hK29 _ _ ?_))
         clear hK29
         refine ccond0 rfl ?_
         refine cskip' (kthn ?_)
         first | rw [hho] at hJr16 | rw [hbad (.inl (by assumption))] at hJr16 | rw [hbad (.inr (.inl (by assumption)))] at hJr16 | rw [hbad (.inr (.inr (.inl (by assumption))))] at hJr16 | rw [hbad (.inr (.inr (.inr (.inl (by assumption)))))] at hJr16 | rw [hbad (.inr (.inr (.inr (.inr (.inl (by assumption))))))] at hJr16 | rw [hbad (.inr (.inr (.inr (.inr (.inr (.inl (by assumption)))))))] at hJr16 | rw [hbad (.inr (.inr (.inr (.inr (.inr (.inr (by assumption)))))))] at hJr16
         exact ksub zsub zge (hJr16 () trivial)
      clear hK8
      refine cblock ?_
      refine cloop (A := Nat) (fun x => [(48, i64 x), (47, i64 2), (46, .slice (some ⟨b46, 0, none⟩) 2 2), (0, dp q), (1, i64 first), (2, i64 N), (3, i64 a), (4, i64 b)]) (fun x => [sc b46 (intsV [a, b]) 3, dev q D] ++ R) (fun x => x ≤ 2 ∧ (1 ≤ x → ¬ inRing first N a) ∧ (2 ≤ x → ¬ inRing first N b)) (fun x => 2 - x) (0) ?_ zsub zge ?_
      · exact ⟨Nat.zero_le _, fun h => absurd h (by decide), fun h => absurd h (by decide)⟩
      rintro k hI1 KL1 hL1
      have hI1o := hI1
      obtain ⟨hk, hka, hkb⟩ := hI1; have hrd : RdV [sc b46 (intsV [a, b]) 3] (.slice (some ⟨b46, 0, none⟩) 2 2) 2 (intsV [a, b]) := rdV_in .z rfl rfl
      refine cseq ?_; intro K30 hK30
      refine creg ?_
      refine y (ev_lss rfl rfl) rfl ?_
      refine ynil' (kthn (hK30 _ _ ?_))
      clear hK30
      refine cseq ?_; intro K31 hK31
      refine ccond rfl (fun h237 => ?_) (fun h237 => ?_)
      ·(try simp only [sH] at h237)
       obtain ⟨z, hz⟩ : ∃ z, ([a, b] : List Int)[k]? = some z := by
         rcases Nat.lt_or_ge k 1 with h | h
         · exact ⟨a, by rw [show k = 0 by omega]; rfl⟩
         · exact ⟨b, by rw [show k = 1 by omega]; rfl⟩
       have hzz : z ≤ 9223372036854775807 := by
         have := List.mem_of_getElem? hz
         simp at this; omega
       have hzk : (k = 0 → z = a) ∧ (k = 1 → z = b) := ⟨fun h => by subst h; simp at hz; exact hz.symm, fun h => by subst h; simp at hz; exact hz.symm⟩
       refine cskip' (kthn (hK31 _ _ ?_))
       clear hK31
       refine cseq ?_; intro K32 hK32
       refine cblock ?_
       refine cseq ?_; intro K33 hK33
       refine creg ?_
       refine y (ev_ixV hrd rfl rfl Tryz.underlying113 Tryz.sizeOf3 (by omega) (by omega)) rfl ?_
       refine y (ev_loadV k hrd zge rfl Tryz.isAgg3 (by simp) (intsV_get hz)) rfl ?_
       refine yas ?_
       refine ynil' (kthn (hK33 _ _ ?_))
       clear hK33
       refine cseq ?_; intro K34 hK34
       refine creg ?_
       refine ymv ?_
       refine ymv ?_
       refine y (ev_geq rfl rfl) rfl ?_
       refine ymv ?_
       refine ysplit 55 rfl (fun h245 => ?_) (fun h245 => ?_)
       ·(try simp only [sH] at h245)
        refine ygo ?_
        refine ymv ?_
        refine ygo ?_
        refine ymv ?_
        refine ygo ?_
        refine y (ev_sub rfl rfl) rfl ?_
        rw [wr (by omega) (by omega)]
        refine ygo ?_
        refine ymv ?_
        refine ygo ?_
        refine y (ev_lss rfl rfl) rfl ?_
        refine ypa ?_
        refine ynil' (kthn (hK34 _ _ ?_))
        clear hK34
        refine ccond rfl (fun h252 => ?_) (fun h252 => ?_)
        ·(try simp only [sH] at h252)
         refine cseq ?_; intro K35 hK35
         refine creg ?_
         have hop : logOpen D first N a b = (1, log0 D first (N : Int).toNat a b, D) := by
           have hir : inRing first N z := ⟨by omega, by omega⟩
           have : inRing first N a ∨ inRing first N b := by
             rcases Nat.lt_or_ge k 1 with h | h
             · exact .inl (hzk.1 (by omega) ▸ hir)
             · exact .inr (hzk.2 (by omega) ▸ hir)
           unfold logOpen; rw [if_pos (by unfold logArg; rcases this with h | h; exact .inr (.inr (.inr (.inr (.inl h)))); exact .inr (.inr (.inr (.inr (.inr h)))))]
         refine yas ?_
         refine yas ?_
         refine ynil' (kthn (hK35 _ _ ?_))
         clear hK35
         refine cret (kbr (kthr (kthr (kbr (kthr ?_)))))
         first
           | (exfalso; omega; done)
           | (refine kretv2 Tryz.results46 rfl rfl (L1 := [dev q D] ++ R) zge ?_
              exact ⟨_, .inl ⟨by rw [hop]; show (1 : Int) ≠ 0; decide, by rw [hop], by rw [hop]⟩, rfl⟩)
        ·(try simp only [sH] at h252)
         refine cskip' (kbn (kthn (hK32 _ _ ?_)))
         clear hK32
         refine creg ?_
         refine y (ev_add rfl rfl) rfl ?_
         rw [show IntKind.i64.wrap ((k:Int) + 1) = ((k+1 : Nat) : Int) by rw [wr (by omega) (by omega)]; rfl]
         refine ymv ?_
         refine ynil' (kthn ?_)
         exact hL1 (k + 1) (⟨by omega, fun _ h => by rcases Nat.lt_or_ge k 1 with h1 | h1; exact absurd (hzk.1 (by omega) ▸ h) (by unfold inRing; omega); exact hka h1 h, fun h2 h => absurd (hzk.2 (by omega) ▸ h) (by unfold inRing; omega)⟩) (by omega) _ _ zsub zge
       ·(try simp only [sH] at h245)
        refine ygz ?_
        refine ygz ?_
        refine ygz ?_
        refine ygz ?_
        refine ygz ?_
        refine ypb ?_
        refine ynil' (kthn (hK34 _ _ ?_))
        clear hK34
        refine ccond0 rfl ?_
        refine cskip' (kbn (kthn (hK32 _ _ ?_)))
        clear hK32
        refine creg ?_
        refine y (ev_add rfl rfl) rfl ?_
        rw [show IntKind.i64.wrap ((k:Int) + 1) = ((k+1 : Nat) : Int) by rw [wr (by omega) (by omega)]; rfl]
        refine ymv ?_
        refine ynil' (kthn ?_)
        exact hL1 (k + 1) (⟨by omega, fun _ h => by rcases Nat.lt_or_ge k 1 with h1 | h1; exact absurd (hzk.1 (by omega) ▸ h) (by unfold inRing; omega); exact hka h1 h, fun h2 h => absurd (hzk.2 (by omega) ▸ h) (by unfold inRing; omega)⟩) (by omega) _ _ zsub zge
      ·(try simp only [sH] at h237)
       refine cexit (kthx (kthx (kbx (kthn ?_))))
       exact ksub zsub zge (hJ1 k ⟨hI1o, by first | trivial | omega⟩)
end W
end Go.Proofs
