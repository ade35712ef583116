/- A part of the proof: contracts and plain lemmas, each without conditions beyond those that it names. -/
import Derived.Test.YtnedokioglfipaaT12
import Derived.Test.YtnedokioglfipaaSlU
set_option linter.unusedVariables false
set_option linter.unusedSimpArgs false
set_option linter.constructorNameAsVariable false
namespace Go.Proofs
open Go Go.Sl
namespace W
set_option linter.unusedVariables false
theorem lawGens [Env] {R : List Seg} {lv av : Value} {ts : List Bytes} {us : List Bool} (hl : RdV R lv ts.length (strsV ts)) (ha : RdV R av us.length (boolsV us)) :
    Con Try.prog 10 [lv, av] [] R (Is (.bool true) []) := by
  have hU0 : Up (Dev.new 2) 2 := new_up (by decide)
  have hE0 : openE (Dev.new 2) 1 0 = 0 := openE_up hU0 (by decide) (by decide) (by decide)
  have hC0 : openC (Dev.new 2) 1 0 = CellM.init 1 0 := open_new (by decide) (by decide) (by decide) (by decide)
  refine con_enter Try.func10 Try.ntmps10 rfl rfl ?_
  refine cseq ?_; intro K1 hK1
  refine creg ?_
  refine y (ev_assign rfl) rfl ?_
  refine ynil' (kthn (hK1 _ _ ?_))
  clear hK1
  refine cseq ?_; intro K2 hK2
  refine cseq ?_; intro K3 hK3
  refine creg ?_
  refine ycall (awake5) rfl Try.call37 (by repeat first | exact .nil | exact .z | apply Pk.s | apply Tk.cons) rfl ?_
  rintro v L' ⟨rfl, rfl⟩
  refine y (ev_not rfl) rfl ?_
  refine ynil' (kthn (hK3 _ _ ?_))
  clear hK3
  refine ccond rfl (fun h4 => ?_) (fun h4 => ?_)
  · (try simp only [decide_eq_true_eq, beq_iff_eq, beq_eq_false_iff_ne, decide_eq_decide, decide_eq_false_iff_not, Bool.not_eq_true', Bool.not_eq_false', Bool.not_eq_true, Bool.not_eq_false, Bool.not_not, ne_eq, Option.isNone_some, Option.isSome_some, Option.isNone_none, Option.isSome_none] at h4)
    refine cseq ?_; intro K4 hK4
    refine creg ?_
    refine y (ev_assign rfl) rfl ?_
    refine ynil' (kthn (hK4 _ _ ?_))
    clear hK4
    refine cret (kthr ?_)
    first
      | (exfalso; omega; done)
      | (refine kretv Try.results10 rfl (L1 := R) (by repeat first | exact .refl | exact .nil | exact .z | apply Pk.s | refine Ge.e ?_ | apply Ge.pick | apply Ge.drop) ?_
         exact ⟨_, ⟨by first | rfl | (exfalso; simp_all; done) | (simp [hes]; done), rfl⟩, by first | rfl | (exfalso; simp_all; done) | (simp [hes]; done)⟩)
  · (try simp only [decide_eq_true_eq, beq_iff_eq, beq_eq_false_iff_ne, decide_eq_decide, decide_eq_false_iff_not, Bool.not_eq_true', Bool.not_eq_false', Bool.not_eq_true, Bool.not_eq_false, Bool.not_not, ne_eq, Option.isNone_some, Option.isSome_some, Option.isNone_none, Option.isSome_none] at h4)
    refine cskip' (kthn (hK2 _ _ ?_))
    clear hK2
    refine cseq ?_; intro K5 hK5
    refine creg ?_
    refine ycall (secNew (n := 2) (by omega)) rfl Try.call15 (by repeat first | exact .nil | exact .z | apply Pk.s | apply Tk.cons) rfl ?_
    rintro v L' ⟨q11, rfl, rfl⟩
    refine y (ev_assign rfl) rfl ?_
    refine ynil' (kthn (hK5 _ _ ?_))
    clear hK5
    refine cseq ?_; intro K6 hK6
    refine cseq ?_; intro K7 hK7
    refine creg ?_
    refine y (ev_move rfl) rfl ?_
    skip
    · skip
      refine y (ev_eqlPnil rfl rfl Try.underlying24) rfl ?_
      refine ynil' (kthn (hK7 _ _ ?_))
      clear hK7
      refine ccond0 rfl ?_
      refine cskip' (kthn (hK6 _ _ ?_))
      clear hK6
      refine cseq ?_; intro K8 hK8
      refine creg ?_
      refine y (ev_move rfl) rfl ?_
      refine ycall (cOpenGood hU0.ok hE0) rfl Try.call40 (by repeat first | exact .nil | exact .z | apply Pk.s | apply Tk.cons) rfl ?_
      rintro v L' ⟨c0, rfl, rfl⟩
      refine y (ev_move rfl) rfl ?_
      refine y (ev_extract rfl rfl) rfl ?_
      refine y (ev_extract rfl rfl) rfl ?_
      refine y (ev_assign rfl) rfl ?_
      refine y (ev_assign rfl) rfl ?_
      refine ynil' (kthn (hK8 _ _ ?_))
      clear hK8
      refine cseq ?_; intro K9 hK9
      refine cseq ?_; intro K10 hK10
      refine creg ?_
      refine y (ev_assign rfl) rfl ?_
      refine ynil' (kthn (hK10 _ _ ?_))
      clear hK10
      have hJ1 : ∀ x : Nat × Dev × Nat, ((Up x.2.1 2 ∧ x.2.1.es = [] ∧ (openC x.2.1 1 0).gen = x.1 ∧ x.1 ≤ ts.length ∧ x.1 ≤ 60) ∧ (True)) → Sk 101 K9 ([(8, i64 x.1), (6, ptr x.2.2), (5, dp q11), (0, lv), (1, av)]) ([celP x.2.2 q11 (openC x.2.1 1 0), dev q11 x.2.1] ++ R) := by
        rintro ⟨k, D, c⟩ ⟨hI1, hX1⟩
        refine hK9 _ _ ?_
        obtain ⟨hU, hes, hgen, hk1, hk2⟩ := hI1; dsimp only at hU hes hgen hk1 hk2 ⊢
        refine cseq ?_; intro K11 hK11
        refine creg ?_
        refine y (ev_move rfl) rfl ?_
        refine ycall (secPending ?ok19) rfl Try.call33 (by repeat first | exact .nil | exact .z | apply Pk.s | apply Tk.cons) rfl ?_
        case ok19 => exact hU.ok
        rintro v L' ⟨s98, rfl, ok98, rfl⟩
        first
          | refine y (ev_len rfl Try.underlying42) rfl ?_
          | refine y (ev_lenSv rfl Try.underlying42 (by assumption)) rfl ?_
          | refine y (ev_lenV rfl Try.underlying42 (RdV.lenVal (by assumption))) rfl ?_
          | refine y (ev_lenV rfl Try.underlying42 (RdB.lenVal (by assumption))) rfl ?_
        refine y (ev_eql rfl rfl) rfl ?_
        refine y (ev_assign rfl) rfl ?_
        refine ynil' (kthn (hK11 _ _ ?_))
        clear hK11
        refine cret ?_
        first
          | (exfalso; omega; done)
          | (refine kretv Try.results10 rfl (L1 := R) (by repeat first | exact .refl | exact .nil | exact .z | apply Pk.s | refine Ge.e ?_ | apply Ge.pick | apply Ge.drop) ?_
             exact ⟨_, ⟨by first | rfl | (exfalso; simp_all; done) | (simp [hes]; done), rfl⟩, by first | rfl | (exfalso; simp_all; done) | (simp [hes]; done)⟩)
      clear hK9
      refine cblock ?_
      refine cloop (A := Nat × Dev × Nat) (fun x => [(8, i64 x.1), (6, ptr x.2.2), (5, dp q11), (0, lv), (1, av)]) (fun x => [celP x.2.2 q11 (openC x.2.1 1 0), dev q11 x.2.1] ++ R) (fun x => Up x.2.1 2 ∧ x.2.1.es = [] ∧ (openC x.2.1 1 0).gen = x.1 ∧ x.1 ≤ ts.length ∧ x.1 ≤ 60) (fun x => ts.length - x.1) ((0, Dev.new 2, c0)) ?_ (by repeat first | exact sub_nil | refine sub_cons rfl ?_ | refine sub_cons' rfl (by simp) ?_) (by repeat first | exact .refl | exact .nil | exact .z | apply Pk.s | refine Ge.e ?_ | apply Ge.pick | apply Ge.drop) ?_
      · exact ⟨hU0, rfl, by rw [hC0]; rfl, Nat.zero_le _, Nat.zero_le _⟩
      rintro ⟨k, D, c⟩ hI1 KL1 hL1
      have hI1o := hI1
      obtain ⟨hU, hes, hgen, hk1, hk2⟩ := hI1; dsimp only at hU hes hgen hk1 hk2 ⊢
      refine cseq ?_; intro K12 hK12
      refine cseq ?_; intro K13 hK13
      refine creg ?_
      refine y (ev_move rfl) rfl ?_
      refine y (ev_move rfl) rfl ?_
      first
        | refine y (ev_len rfl Try.underlying57) rfl ?_
        | refine y (ev_lenSv rfl Try.underlying57 (by assumption)) rfl ?_
        | refine y (ev_lenV rfl Try.underlying57 (RdV.lenVal (by assumption))) rfl ?_
        | refine y (ev_lenV rfl Try.underlying57 (RdB.lenVal (by assumption))) rfl ?_
      refine y (ev_lss rfl rfl) rfl ?_
      refine y (ev_move rfl) rfl ?_
      refine ysplit 23 rfl (fun h28 => ?_) (fun h28 => ?_)
      · (try simp only [decide_eq_true_eq, beq_iff_eq, beq_eq_false_iff_ne, decide_eq_decide, decide_eq_false_iff_not, Bool.not_eq_true', Bool.not_eq_false', Bool.not_eq_true, Bool.not_eq_false, Bool.not_not, ne_eq, Option.isNone_some, Option.isSome_some, Option.isNone_none, Option.isSome_none] at h28)
        refine yg1 rfl rfl ?_
        refine y (ev_move rfl) rfl ?_
        refine yg1 rfl rfl ?_
        refine y (ev_lss rfl rfl) rfl ?_
        refine y (ev_pick1 rfl rfl) rfl ?_
        refine ynil' (kthn (hK13 _ _ ?_))
        clear hK13
        refine ccond rfl (fun h32 => ?_) (fun h32 => ?_)
        · (try simp only [decide_eq_true_eq, beq_iff_eq, beq_eq_false_iff_ne, decide_eq_decide, decide_eq_false_iff_not, Bool.not_eq_true', Bool.not_eq_false', Bool.not_eq_true, Bool.not_eq_false, Bool.not_not, ne_eq, Option.isNone_some, Option.isSome_some, Option.isNone_none, Option.isSome_none] at h32)
          obtain ⟨s, hs⟩ : ∃ s, ts[k]? = some s := ⟨_, List.getElem?_eq_getElem (by omega)⟩
          refine cskip' (kthn (hK12 _ _ ?_))
          clear hK12
          refine cseq ?_; intro K14 hK14
          refine cblock ?_
          refine cseq ?_; intro K15 hK15
          refine cseq ?_; intro K16 hK16
          refine creg ?_
          refine y (ev_move rfl) rfl ?_
          skip
          · skip
            refine y (ev_eqlPnil rfl rfl Try.underlying61) rfl ?_
            refine y (ev_move rfl) rfl ?_
            refine yg1 rfl rfl ?_
            refine y (ev_move rfl) rfl ?_
            refine yg1 rfl rfl ?_
            refine y (ev_move rfl) rfl ?_
            refine yg1 rfl rfl ?_
            refine y (ev_ixV hl rfl rfl Try.underlying57 Try.sizeOf9 (by omega) (by omega)) rfl ?_
            refine yg1 rfl rfl ?_
            refine y (ev_loadV k hl (by repeat first | exact .refl | exact .nil | exact .z | apply Pk.s | refine Ge.e ?_ | apply Ge.pick | apply Ge.drop) rfl Try.isAgg9 (by simp) (strsV_get hs)) rfl ?_
            refine yg1 rfl rfl ?_
            first
              | refine y (ev_lenStr rfl Try.underlying9) rfl ?_
              | refine y (ev_lenS rfl Try.underlying9) rfl ?_
            refine yg1 rfl rfl ?_
            refine y (ev_gtr rfl rfl) rfl ?_
            refine y (ev_pick0 rfl rfl) rfl ?_
            refine ynil' (kthn (hK16 _ _ ?_))
            clear hK16
            refine ccond rfl (fun h43 => ?_) (fun h43 => ?_)
            · (try simp only [decide_eq_true_eq, beq_iff_eq, beq_eq_false_iff_ne, decide_eq_decide, decide_eq_false_iff_not, Bool.not_eq_true', Bool.not_eq_false', Bool.not_eq_true, Bool.not_eq_false, Bool.not_not, ne_eq, Option.isNone_some, Option.isSome_some, Option.isNone_none, Option.isSome_none] at h43)
              refine cseq ?_; intro K17 hK17
              refine creg ?_
              refine y (ev_move rfl) rfl ?_
              refine y (ev_neqPnil rfl rfl Try.underlying61) rfl ?_
              refine y (ev_assign rfl) rfl ?_
              refine ynil' (kthn (hK17 _ _ ?_))
              clear hK17
              refine cret (kthr (kbr (kthr (kthr (kbr (kthr ?_))))))
              first
                | (exfalso; omega; done)
                | (refine kretv Try.results10 rfl (L1 := R) (by repeat first | exact .refl | exact .nil | exact .z | apply Pk.s | refine Ge.e ?_ | apply Ge.pick | apply Ge.drop) ?_
                   exact ⟨_, ⟨by first | rfl | (exfalso; simp_all; done) | (simp [hes]; done), rfl⟩, by first | rfl | (exfalso; simp_all; done) | (simp [hes]; done)⟩)
            · (try simp only [decide_eq_true_eq, beq_iff_eq, beq_eq_false_iff_ne, decide_eq_decide, decide_eq_false_iff_not, Bool.not_eq_true', Bool.not_eq_false', Bool.not_eq_true, Bool.not_eq_false, Bool.not_not, ne_eq, Option.isNone_some, Option.isSome_some, Option.isNone_none, Option.isSome_none] at h43)
              have hs100 : s.length ≤ 100 := by omega
              have hE : openE D 1 0 = 0 := openE_up hU (by decide) (by decide) (by decide)
              have hC := (openC_ok hE).1
              rw [hU.len] at hC
              refine cskip' (kthn (hK15 _ _ ?_))
              clear hK15
              refine cseq ?_; intro K18 hK18
              refine cseq ?_; intro K19 hK19
              refine cdraw 22 [(0, true), (1, true), (2, true), (3, true), (4, true), (5, false), (6, true), (7, true), (8, true), (10, true), (11, true), (12, true), (13, true), (9, false), (14, true), (15, true), (16, true), (17, true), (19, true), (20, true), (18, false), (21, true)] (R) Try.mixed (by kernel_rfl) (by repeat first | exact .refl | exact .nil | exact .z | apply Pk.s | refine Ge.e ?_ | apply Ge.pick | apply Ge.drop) ?_
              refine hr rfl (ev_move rfl) rfl ?_
              refine hr rfl (ev_move rfl) rfl ?_
              refine hr rfl (ev_move rfl) rfl ?_
              refine hr rfl (ev_ixV hl rfl rfl Try.underlying57 Try.sizeOf9 (by omega) (by omega)) rfl ?_
              refine hr rfl (ev_loadV k hl (by repeat first | exact .refl | exact .nil | exact .z | apply Pk.s | refine Ge.e ?_ | apply Ge.pick | apply Ge.drop) rfl Try.isAgg9 (by simp) (strsV_get hs)) rfl ?_
              refine hcall rfl (cPutGood hU hC hs100 (by omega)) rfl Try.call43 (by repeat first | exact .nil | exact .z | apply Pk.s | apply Tk.cons) rfl ?_
              rintro v L' ⟨D', rfl, hp, rfl⟩; refine ⟨(by repeat first | exact .refl | exact .nil | exact .z | apply Pk.s | refine Ge.e ?_ | apply Ge.pick | apply Ge.drop), ?_⟩
              have hU' := hp.up
              have hO : openC D' 1 0 = (openC D 1 0).next s := open_next hU.len hE hs100 (by omega) hp
              have hgen' : (openC D' 1 0).gen = ((k + 1 : Nat) : Int) := by rw [hO]; show (openC D 1 0).gen + 1 = _; omega
              have htx' : (openC D' 1 0).text = s := by rw [hO]; rfl
              have hE' : openE D' 1 0 = 0 := openE_up hU' (by decide) (by decide) (by decide)
              rw [← hO]
              skip
              · skip
                refine hr rfl (ev_neq rfl rfl) rfl ?_
                refine hr rfl (ev_move rfl) rfl ?_
                refine hr1 rfl rfl rfl (ev_move rfl) rfl ?_
                refine hr1 rfl rfl rfl (ev_move rfl) rfl ?_
                refine hr1 rfl rfl rfl (ev_move rfl) rfl ?_
                refine hr1 rfl rfl rfl (ev_ixV hl rfl rfl Try.underlying57 Try.sizeOf9 (by omega) (by omega)) rfl ?_
                refine hr1 rfl rfl rfl (ev_loadV k hl (by repeat first | exact .refl | exact .nil | exact .z | apply Pk.s | refine Ge.e ?_ | apply Ge.pick | apply Ge.drop) rfl Try.isAgg9 (by simp) (strsV_get hs)) rfl ?_
                refine hcall1 rfl rfl rfl (cGet) rfl Try.call41 (by repeat first | exact .nil | exact .z | apply Pk.s | apply Tk.cons) rfl ?_
                rintro v L' ⟨rfl, rfl⟩; refine ⟨(by repeat first | exact .refl | exact .nil | exact .z | apply Pk.s | refine Ge.e ?_ | apply Ge.pick | apply Ge.drop), ?_⟩
                rw [htx']
                first
                  | refine hr1 rfl rfl rfl (ev_neqL rfl rfl) rfl ?_
                  | refine hr1 rfl rfl rfl (ev_neqS rfl rfl) rfl ?_
                rw [show decide (s ≠ s) = false by simp]
                refine hr rfl (ev_pick0 rfl rfl) rfl ?_
                refine hr rfl (ev_move rfl) rfl ?_
                refine hr1 rfl rfl rfl (ev_move rfl) rfl ?_
                refine hr1 rfl rfl rfl (ev_move rfl) rfl ?_
                refine hr1 rfl rfl rfl (ev_add rfl rfl) rfl ?_
                rw [wr (by omega) (by omega)]
                refine hcall1 rfl rfl rfl (cGen) rfl Try.call42 (by repeat first | exact .nil | exact .z | apply Pk.s | apply Tk.cons) rfl ?_
                rintro v L' ⟨rfl, rfl⟩; refine ⟨(by repeat first | exact .refl | exact .nil | exact .z | apply Pk.s | refine Ge.e ?_ | apply Ge.pick | apply Ge.drop), ?_⟩
                refine hr1 rfl rfl rfl (ev_neq rfl rfl) rfl ?_
                rw [show (!decide ((openC D' 1 0).gen = (k : Int) + 1)) = false by simp; omega]
                refine hnil ?_
                refine y (ev_pick0 rfl rfl) rfl ?_
                refine hnoP' (kthn (hK19 _ _ ?_))
                clear hK19
                refine ccond0 rfl ?_
                refine cskip' (kthn (hK18 _ _ ?_))
                clear hK18
                refine cseq ?_; intro K20 hK20
                refine creg ?_
                refine y (ev_move rfl) rfl ?_
                refine y (ev_move rfl) rfl ?_
                first
                  | refine y (ev_len rfl Try.underlying67) rfl ?_
                  | refine y (ev_lenSv rfl Try.underlying67 (by assumption)) rfl ?_
                  | refine y (ev_lenV rfl Try.underlying67 (RdV.lenVal (by assumption))) rfl ?_
                  | refine y (ev_lenV rfl Try.underlying67 (RdB.lenVal (by assumption))) rfl ?_
                refine y (ev_lss rfl rfl) rfl ?_
                refine y (ev_move rfl) rfl ?_
                refine ysplit 68 rfl (fun h75 => ?_) (fun h75 => ?_)
                · (try simp only [decide_eq_true_eq, beq_iff_eq, beq_eq_false_iff_ne, decide_eq_decide, decide_eq_false_iff_not, Bool.not_eq_true', Bool.not_eq_false', Bool.not_eq_true, Bool.not_eq_false, Bool.not_not, ne_eq, Option.isNone_some, Option.isSome_some, Option.isNone_none, Option.isSome_none] at h75)
                  obtain ⟨bb, hbb⟩ : ∃ b, us[k]? = some b := ⟨_, List.getElem?_eq_getElem (by omega)⟩
                  refine yg1 rfl rfl ?_
                  refine y (ev_move rfl) rfl ?_
                  refine yg1 rfl rfl ?_
                  refine y (ev_move rfl) rfl ?_
                  refine yg1 rfl rfl ?_
                  refine y (ev_ixV ha rfl rfl Try.underlying67 Try.sizeOf4 (by omega) (by omega)) rfl ?_
                  refine yg1 rfl rfl ?_
                  refine y (ev_loadV k ha (by repeat first | exact .refl | exact .nil | exact .z | apply Pk.s | refine Ge.e ?_ | apply Ge.pick | apply Ge.drop) rfl Try.isAgg4 (by simp) (boolsV_get hbb)) rfl ?_
                  refine y (ev_pick1 rfl rfl) rfl ?_
                  refine ynil' (kthn (hK20 _ _ ?_))
                  clear hK20
                  refine ccond rfl (fun h81 => ?_) (fun h81 => ?_)
                  · (try simp only [decide_eq_true_eq, beq_iff_eq, beq_eq_false_iff_ne, decide_eq_decide, decide_eq_false_iff_not, Bool.not_eq_true', Bool.not_eq_false', Bool.not_eq_true, Bool.not_eq_false, Bool.not_not, ne_eq, Option.isNone_some, Option.isSome_some, Option.isNone_none, Option.isSome_none] at h81)
                    refine cseq ?_; intro K21 hK21
                    refine creg ?_
                    refine y (ev_move rfl) rfl ?_
                    refine ycall (cOpenGood hU'.ok hE') rfl Try.call40 (by repeat first | exact .nil | exact .z | apply Pk.s | apply Tk.cons) rfl ?_
                    rintro v L' ⟨c2, rfl, rfl⟩
                    refine y (ev_move rfl) rfl ?_
                    refine y (ev_extract rfl rfl) rfl ?_
                    refine y (ev_extract rfl rfl) rfl ?_
                    refine y (ev_assign rfl) rfl ?_
                    refine ynil' (kthn (hK21 _ _ ?_))
                    clear hK21
                    refine cseq ?_; intro K22 hK22
                    refine cdraw 17 [(0, true), (1, true), (2, true), (3, true), (5, true), (6, true), (7, true), (8, true), (4, false), (9, true), (10, true), (11, true), (12, true), (14, true), (15, true), (13, false), (16, true)] ([celP c2 q11 (openC D' 1 0)] ++ R) Try.mixed (by kernel_rfl) (by repeat first | exact .refl | exact .nil | exact .z | apply Pk.s | refine Ge.e ?_ | apply Ge.pick | apply Ge.drop) ?_
                    refine hr rfl (ev_move rfl) rfl ?_
                    skip
                    · skip
                      refine hr rfl (ev_eqlPnil rfl rfl Try.underlying61) rfl ?_
                      refine hr rfl (ev_move rfl) rfl ?_
                      refine hr1 rfl rfl rfl (ev_move rfl) rfl ?_
                      refine hr1 rfl rfl rfl (ev_move rfl) rfl ?_
                      refine hr1 rfl rfl rfl (ev_move rfl) rfl ?_
                      refine hr1 rfl rfl rfl (ev_ixV hl rfl rfl Try.underlying57 Try.sizeOf9 (by omega) (by omega)) rfl ?_
                      refine hr1 rfl rfl rfl (ev_loadV k hl (by repeat first | exact .refl | exact .nil | exact .z | apply Pk.s | refine Ge.e ?_ | apply Ge.pick | apply Ge.drop) rfl Try.isAgg9 (by simp) (strsV_get hs)) rfl ?_
                      refine hcall1 rfl rfl rfl (cGet) rfl Try.call41 (by repeat first | exact .nil | exact .z | apply Pk.s | apply Tk.cons) rfl ?_
                      rintro v L' ⟨rfl, rfl⟩; refine ⟨(by repeat first | exact .refl | exact .nil | exact .z | apply Pk.s | refine Ge.e ?_ | apply Ge.pick | apply Ge.drop), ?_⟩
                      rw [htx']
                      first
                        | refine hr1 rfl rfl rfl (ev_neqL rfl rfl) rfl ?_
                        | refine hr1 rfl rfl rfl (ev_neqS rfl rfl) rfl ?_
                      rw [show decide (s ≠ s) = false by simp]
                      refine hr rfl (ev_pick0 rfl rfl) rfl ?_
                      refine hr rfl (ev_move rfl) rfl ?_
                      refine hr1 rfl rfl rfl (ev_move rfl) rfl ?_
                      refine hr1 rfl rfl rfl (ev_move rfl) rfl ?_
                      refine hr1 rfl rfl rfl (ev_add rfl rfl) rfl ?_
                      rw [wr (by omega) (by omega)]
                      refine hcall1 rfl rfl rfl (cGen) rfl Try.call42 (by repeat first | exact .nil | exact .z | apply Pk.s | apply Tk.cons) rfl ?_
                      rintro v L' ⟨rfl, rfl⟩; refine ⟨(by repeat first | exact .refl | exact .nil | exact .z | apply Pk.s | refine Ge.e ?_ | apply Ge.pick | apply Ge.drop), ?_⟩
                      refine hr1 rfl rfl rfl (ev_neq rfl rfl) rfl ?_
                      rw [show (!decide ((openC D' 1 0).gen = (k : Int) + 1)) = false by simp; omega]
                      refine hnil ?_
                      refine y (ev_pick0 rfl rfl) rfl ?_
                      refine hnoP' (kthn (hK22 _ _ ?_))
                      clear hK22
                      refine ccond0 rfl ?_
                      refine cskip' (kbn (kthn (hK14 _ _ ?_)))
                      clear hK14
                      refine creg ?_
                      refine y (ev_move rfl) rfl ?_
                      refine y (ev_add rfl rfl) rfl ?_
                      rw [show IntKind.i64.wrap ((k:Int) + 1) = ((k+1 : Nat) : Int) by rw [wr (by omega) (by omega)]; rfl]
                      refine y (ev_assign rfl) rfl ?_
                      refine ynil' (kthn ?_)
                      first
                        | exact hL1 (k + 1, D', c2) ⟨hU', hp.es, hgen', by dsimp only; omega, by dsimp only; omega⟩ (by dsimp only; omega) _ _ (by repeat first | exact sub_nil | refine sub_cons rfl ?_ | refine sub_cons' rfl (by simp) ?_) (by repeat first | exact .refl | exact .nil | exact .z | apply Pk.s | refine Ge.e ?_ | apply Ge.pick | apply Ge.drop)
                        | exact hL1 (k + 1, D', c) ⟨hU', hp.es, hgen', by dsimp only; omega, by dsimp only; omega⟩ (by dsimp only; omega) _ _ (by repeat first | exact sub_nil | refine sub_cons rfl ?_ | refine sub_cons' rfl (by simp) ?_) (by repeat first | exact .refl | exact .nil | exact .z | apply Pk.s | refine Ge.e ?_ | apply Ge.pick | apply Ge.drop)
                  · (try simp only [decide_eq_true_eq, beq_iff_eq, beq_eq_false_iff_ne, decide_eq_decide, decide_eq_false_iff_not, Bool.not_eq_true', Bool.not_eq_false', Bool.not_eq_true, Bool.not_eq_false, Bool.not_not, ne_eq, Option.isNone_some, Option.isSome_some, Option.isNone_none, Option.isSome_none] at h81)
                    refine cskip' (kbn (kthn (hK14 _ _ ?_)))
                    clear hK14
                    refine creg ?_
                    refine y (ev_move rfl) rfl ?_
                    refine y (ev_add rfl rfl) rfl ?_
                    rw [show IntKind.i64.wrap ((k:Int) + 1) = ((k+1 : Nat) : Int) by rw [wr (by omega) (by omega)]; rfl]
                    refine y (ev_assign rfl) rfl ?_
                    refine ynil' (kthn ?_)
                    first
                      | exact hL1 (k + 1, D', c2) ⟨hU', hp.es, hgen', by dsimp only; omega, by dsimp only; omega⟩ (by dsimp only; omega) _ _ (by repeat first | exact sub_nil | refine sub_cons rfl ?_ | refine sub_cons' rfl (by simp) ?_) (by repeat first | exact .refl | exact .nil | exact .z | apply Pk.s | refine Ge.e ?_ | apply Ge.pick | apply Ge.drop)
                      | exact hL1 (k + 1, D', c) ⟨hU', hp.es, hgen', by dsimp only; omega, by dsimp only; omega⟩ (by dsimp only; omega) _ _ (by repeat first | exact sub_nil | refine sub_cons rfl ?_ | refine sub_cons' rfl (by simp) ?_) (by repeat first | exact .refl | exact .nil | exact .z | apply Pk.s | refine Ge.e ?_ | apply Ge.pick | apply Ge.drop)
                · (try simp only [decide_eq_true_eq, beq_iff_eq, beq_eq_false_iff_ne, decide_eq_decide, decide_eq_false_iff_not, Bool.not_eq_true', Bool.not_eq_false', Bool.not_eq_true, Bool.not_eq_false, Bool.not_not, ne_eq, Option.isNone_some, Option.isSome_some, Option.isNone_none, Option.isSome_none] at h75)
                  refine yg0 rfl rfl rfl rfl ?_
                  refine yg0 rfl rfl rfl rfl ?_
                  refine yg0 rfl rfl rfl rfl ?_
                  refine yg0 rfl rfl rfl rfl ?_
                  refine y (ev_pick0 rfl rfl) rfl ?_
                  refine ynil' (kthn (hK20 _ _ ?_))
                  clear hK20
                  refine ccond0 rfl ?_
                  refine cskip' (kbn (kthn (hK14 _ _ ?_)))
                  clear hK14
                  refine creg ?_
                  refine y (ev_move rfl) rfl ?_
                  refine y (ev_add rfl rfl) rfl ?_
                  rw [show IntKind.i64.wrap ((k:Int) + 1) = ((k+1 : Nat) : Int) by rw [wr (by omega) (by omega)]; rfl]
                  refine y (ev_assign rfl) rfl ?_
                  refine ynil' (kthn ?_)
                  first
                    | exact hL1 (k + 1, D', c2) ⟨hU', hp.es, hgen', by dsimp only; omega, by dsimp only; omega⟩ (by dsimp only; omega) _ _ (by repeat first | exact sub_nil | refine sub_cons rfl ?_ | refine sub_cons' rfl (by simp) ?_) (by repeat first | exact .refl | exact .nil | exact .z | apply Pk.s | refine Ge.e ?_ | apply Ge.pick | apply Ge.drop)
                    | exact hL1 (k + 1, D', c) ⟨hU', hp.es, hgen', by dsimp only; omega, by dsimp only; omega⟩ (by dsimp only; omega) _ _ (by repeat first | exact sub_nil | refine sub_cons rfl ?_ | refine sub_cons' rfl (by simp) ?_) (by repeat first | exact .refl | exact .nil | exact .z | apply Pk.s | refine Ge.e ?_ | apply Ge.pick | apply Ge.drop)
        · (try simp only [decide_eq_true_eq, beq_iff_eq, beq_eq_false_iff_ne, decide_eq_decide, decide_eq_false_iff_not, Bool.not_eq_true', Bool.not_eq_false', Bool.not_eq_true, Bool.not_eq_false, Bool.not_not, ne_eq, Option.isNone_some, Option.isSome_some, Option.isNone_none, Option.isSome_none] at h32)
          refine cexit (kthx (kthx (kbx (kthn ?_))))
          exact ksub (by repeat first | exact sub_nil | refine sub_cons rfl ?_ | refine sub_cons' rfl (by simp) ?_) (by repeat first | exact .refl | exact .nil | exact .z | apply Pk.s | refine Ge.e ?_ | apply Ge.pick | apply Ge.drop) (hJ1 ⟨k, D, c⟩ ⟨hI1o, by first | trivial | omega⟩)
      · (try simp only [decide_eq_true_eq, beq_iff_eq, beq_eq_false_iff_ne, decide_eq_decide, decide_eq_false_iff_not, Bool.not_eq_true', Bool.not_eq_false', Bool.not_eq_true, Bool.not_eq_false, Bool.not_not, ne_eq, Option.isNone_some, Option.isSome_some, Option.isNone_none, Option.isSome_none] at h28)
        refine yg0 rfl rfl rfl rfl ?_
        refine yg0 rfl rfl rfl rfl ?_
        refine y (ev_pick0 rfl rfl) rfl ?_
        refine ynil' (kthn (hK13 _ _ ?_))
        clear hK13
        refine ccond0 rfl ?_
        refine cexit (kthx (kthx (kbx (kthn ?_))))
        exact ksub (by repeat first | exact sub_nil | refine sub_cons rfl ?_ | refine sub_cons' rfl (by simp) ?_) (by repeat first | exact .refl | exact .nil | exact .z | apply Pk.s | refine Ge.e ?_ | apply Ge.pick | apply Ge.drop) (hJ1 ⟨k, D, c⟩ ⟨hI1o, by first | trivial | omega⟩)
end W
end Go.Proofs
