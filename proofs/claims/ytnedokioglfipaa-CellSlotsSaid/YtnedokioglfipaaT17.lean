/- A part of the proof: contracts and plain lemmas, each without conditions beyond those that it names. -/
import Derived.Test.YtnedokioglfipaaT16
import Derived.Test.YtnedokioglfipaaT11
import Derived.Test.YtnedokioglfipaaGG
set_option linter.unusedVariables false
set_option linter.unusedSimpArgs false
set_option linter.constructorNameAsVariable false
namespace Go.Proofs
open Go Go.Sl
namespace W
set_option linter.unusedVariables false
theorem lawSlots [Env] {R : List Seg} {gen : Int} {s : Bytes} {sb : Bool} (h1 : -9223372036854775808 ≤ gen) (h2 : gen ≤ 9223372036854775807) :
    Con Try.prog 9 [i64 gen, str s, .bool sb] [] R (Is (.bool true) []) := by
  have hU0 : Up (Dev.new 2) 2 := new_up (by decide)
  have hlA := slotM_le gen s
  refine con_enter Try.func9 Try.ntmps9 rfl rfl ?_
  refine cseq ?_; intro K1 hK1
  refine creg ?_
  refine y (ev_assign rfl) rfl ?_
  refine ynil' (kthn (hK1 _ _ ?_))
  clear hK1
  refine cseq ?_; intro K2 hK2
  refine cseq ?_; intro K3 hK3
  refine creg ?_
  refine ycall (awake5) rfl Try.call37 (by repeat first | exact .nil | exact .z | apply Pk.s | apply Tk.cons) rfl ?_
  rintro v L' ⟨rfl, rfl⟩
  refine y (ev_not rfl) rfl ?_
  refine ynil' (kthn (hK3 _ _ ?_))
  clear hK3
  refine ccond rfl (fun h4 => ?_) (fun h4 => ?_)
  · (try simp only [decide_eq_true_eq, beq_iff_eq, beq_eq_false_iff_ne, decide_eq_decide, decide_eq_false_iff_not, Bool.not_eq_true', Bool.not_eq_false', Bool.not_eq_true, Bool.not_eq_false, Bool.not_not, ne_eq, Option.isNone_some, Option.isSome_some, Option.isNone_none, Option.isSome_none] at h4)
    refine cseq ?_; intro K4 hK4
    refine creg ?_
    refine y (ev_assign rfl) rfl ?_
    refine ynil' (kthn (hK4 _ _ ?_))
    clear hK4
    refine cret (kthr ?_)
    first
      | (exfalso; omega; done)
      | (refine kretv Try.results9 rfl (L1 := R) (by repeat first | exact .refl | exact .nil | exact .z | apply Pk.s | refine Ge.e ?_ | apply Ge.pick | apply Ge.drop) ?_
         exact ⟨_, ⟨by first | rfl | (exfalso; simp_all; done), rfl⟩, by first | rfl | (exfalso; simp_all; done)⟩)
  · (try simp only [decide_eq_true_eq, beq_iff_eq, beq_eq_false_iff_ne, decide_eq_decide, decide_eq_false_iff_not, Bool.not_eq_true', Bool.not_eq_false', Bool.not_eq_true, Bool.not_eq_false, Bool.not_not, ne_eq, Option.isNone_some, Option.isSome_some, Option.isNone_none, Option.isSome_none] at h4)
    refine cskip' (kthn (hK2 _ _ ?_))
    clear hK2
    refine cseq ?_; intro K5 hK5
    refine cseq ?_; intro K6 hK6
    refine creg ?_
    refine y (ev_move rfl) rfl ?_
    first
      | refine y (ev_lenStr rfl Try.underlying9) rfl ?_
      | refine y (ev_lenS rfl Try.underlying9) rfl ?_
    refine y (ev_gtr rfl rfl) rfl ?_
    refine ynil' (kthn (hK6 _ _ ?_))
    clear hK6
    refine ccond rfl (fun h9 => ?_) (fun h9 => ?_)
    · (try simp only [decide_eq_true_eq, beq_iff_eq, beq_eq_false_iff_ne, decide_eq_decide, decide_eq_false_iff_not, Bool.not_eq_true', Bool.not_eq_false', Bool.not_eq_true, Bool.not_eq_false, Bool.not_not, ne_eq, Option.isNone_some, Option.isSome_some, Option.isNone_none, Option.isSome_none] at h9)
      refine cseq ?_; intro K7 hK7
      refine creg ?_
      refine y (ev_assign rfl) rfl ?_
      refine ynil' (kthn (hK7 _ _ ?_))
      clear hK7
      refine cret (kthr ?_)
      first
        | (exfalso; omega; done)
        | (refine kretv Try.results9 rfl (L1 := R) (by repeat first | exact .refl | exact .nil | exact .z | apply Pk.s | refine Ge.e ?_ | apply Ge.pick | apply Ge.drop) ?_
           exact ⟨_, ⟨by first | rfl | (exfalso; simp_all; done), rfl⟩, by first | rfl | (exfalso; simp_all; done)⟩)
    · (try simp only [decide_eq_true_eq, beq_iff_eq, beq_eq_false_iff_ne, decide_eq_decide, decide_eq_false_iff_not, Bool.not_eq_true', Bool.not_eq_false', Bool.not_eq_true, Bool.not_eq_false, Bool.not_not, ne_eq, Option.isNone_some, Option.isSome_some, Option.isNone_none, Option.isSome_none] at h9)
      refine cskip' (kthn (hK5 _ _ ?_))
      clear hK5
      refine cseq ?_; intro K8 hK8
      refine creg ?_
      refine y (ev_move rfl) rfl ?_
      refine y (ev_move rfl) rfl ?_
      refine ycall (cSlot (gen := gen) (s := s) ?lo13 ?hi13) rfl Try.call38 (by repeat first | exact .nil | exact .z | apply Pk.s | apply Tk.cons) rfl ?_
      case lo13 => exact h1
      case hi13 => exact h2
      rintro v L' ⟨s19, rfl, ok19, rfl⟩
      refine y (ev_assign rfl) rfl ?_
      refine ynil' (kthn (hK8 _ _ ?_))
      clear hK8
      refine cseq ?_; intro K9 hK9
      refine cseq ?_; intro K10 hK10
      refine cdraw 6 [(0, true), (1, true), (2, true), (3, true), (4, false), (5, false)] ([svSeg s19 5 (bytesV (slotM gen s))] ++ R) Try.mixed (by kernel_rfl) (by repeat first | exact .refl | exact .nil | exact .z | apply Pk.s | refine Ge.e ?_ | apply Ge.pick | apply Ge.drop) ?_
      skip
      · skip
        refine hr rfl (ev_move rfl) rfl ?_
        refine hr rfl (ev_toStrB (rdY_sv (L := [svSeg s19 5 (bytesV (slotM gen s))]) .z ok19).rd.bytes (by repeat first | exact .refl | exact .nil | exact .z | apply Pk.s | refine Ge.e ?_ | apply Ge.pick | apply Ge.drop) rfl Try.underlying27 Try.underlying9 Try.underlying5) rfl ?_
        refine hr rfl (ev_move rfl) rfl ?_
        refine hr rfl (ev_move rfl) rfl ?_
        refine hcall rfl (rSlot (gen := gen) (s := s) ?lo19 ?hi19) rfl Try.call39 (by repeat first | exact .nil | exact .z | apply Pk.s | apply Tk.cons) rfl ?_
        case lo19 => exact h1
        case hi19 => exact h2
        rintro v L' ⟨s24, rfl, ok24, rfl⟩; refine ⟨(by repeat first | exact .refl | exact .nil | exact .z | apply Pk.s | refine Ge.e ?_ | apply Ge.pick | apply Ge.drop), ?_⟩
        refine ha rfl (ac_of_ev (ev_toStrB (rdY_sv (L := [svSeg s24 5 (bytesV (slotM gen s))]) .z ok24).rd.bytes (by repeat first | exact .refl | exact .nil | exact .z | apply Pk.s | refine Ge.e ?_ | apply Ge.pick | apply Ge.drop) rfl Try.underlying27 Try.underlying9 Try.underlying5)) rfl ?_
        rintro v L' ⟨rfl, rfl⟩; refine ⟨(by repeat first | exact .refl | exact .nil | exact .z | apply Pk.s | refine Ge.e ?_ | apply Ge.pick | apply Ge.drop), ?_⟩
        refine hnil ?_
        first
          | refine y (ev_neqL rfl rfl) rfl ?_
          | refine y (ev_neqS rfl rfl) rfl ?_
        rw [show decide (slotM gen s ≠ slotM gen s) = false by simp]
        refine hnoP' (kthn (hK10 _ _ ?_))
        clear hK10
        refine ccond0 rfl ?_
        refine cskip' (kthn (hK9 _ _ ?_))
        clear hK9
        refine cseq ?_; intro K11 hK11
        refine cseq ?_; intro K12 hK12
        refine creg ?_
        refine y (ev_move rfl) rfl ?_
        first
          | refine y (ev_len rfl Try.underlying27) rfl ?_
          | refine y (ev_lenSv rfl Try.underlying27 (by assumption)) rfl ?_
          | refine y (ev_lenV rfl Try.underlying27 (RdV.lenVal (by assumption))) rfl ?_
          | refine y (ev_lenV rfl Try.underlying27 (RdB.lenVal (by assumption))) rfl ?_
        refine y (ev_eql rfl rfl) rfl ?_
        refine ynil' (kthn (hK12 _ _ ?_))
        clear hK12
        refine ccond rfl (fun h25 => ?_) (fun h25 => ?_)
        · (try simp only [decide_eq_true_eq, beq_iff_eq, beq_eq_false_iff_ne, decide_eq_decide, decide_eq_false_iff_not, Bool.not_eq_true', Bool.not_eq_false', Bool.not_eq_true, Bool.not_eq_false, Bool.not_not, ne_eq, Option.isNone_some, Option.isSome_some, Option.isNone_none, Option.isSome_none] at h25)
          refine cseq ?_; intro K13 hK13
          refine creg ?_
          refine y (ev_assign rfl) rfl ?_
          refine ynil' (kthn (hK13 _ _ ?_))
          clear hK13
          refine cret (kthr ?_)
          first
            | (exfalso; omega; done)
            | (refine kretv Try.results9 rfl (L1 := R) (by repeat first | exact .refl | exact .nil | exact .z | apply Pk.s | refine Ge.e ?_ | apply Ge.pick | apply Ge.drop) ?_
               exact ⟨_, ⟨by first | rfl | (exfalso; simp_all; done), rfl⟩, by first | rfl | (exfalso; simp_all; done)⟩)
        · (try simp only [decide_eq_true_eq, beq_iff_eq, beq_eq_false_iff_ne, decide_eq_decide, decide_eq_false_iff_not, Bool.not_eq_true', Bool.not_eq_false', Bool.not_eq_true, Bool.not_eq_false, Bool.not_not, ne_eq, Option.isNone_some, Option.isSome_some, Option.isNone_none, Option.isSome_none] at h25)
          have hok : slotOk gen s = true := slotM_ne (by omega)
          refine cskip' (kthn (hK11 _ _ ?_))
          clear hK11
          refine cseq ?_; intro K14 hK14
          refine creg ?_
          refine ycall (secNew (n := 2) (by omega)) rfl Try.call15 (by repeat first | exact .nil | exact .z | apply Pk.s | apply Tk.cons) rfl ?_
          rintro v L' ⟨q30, rfl, rfl⟩
          refine y (ev_assign rfl) rfl ?_
          refine ynil' (kthn (hK14 _ _ ?_))
          clear hK14
          refine cseq ?_; intro K15 hK15
          refine cseq ?_; intro K16 hK16
          refine creg ?_
          refine y (ev_move rfl) rfl ?_
          skip
          · skip
            refine y (ev_eqlPnil rfl rfl Try.underlying24) rfl ?_
            refine ynil' (kthn (hK16 _ _ ?_))
            clear hK16
            refine ccond0 rfl ?_
            refine cskip' (kthn (hK15 _ _ ?_))
            clear hK15
            refine cseq ?_; intro K17 hK17
            refine creg ?_
            refine y (ev_assign rfl) rfl ?_
            refine ynil' (kthn (hK17 _ _ ?_))
            clear hK17
            refine cseq ?_; intro K18 hK18
            have hJr16 : ∀ x : Int, (x = 0 ∨ x = 1) → Sk 61 K18 ([(9, i64 x), (8, dp q30), (7, svVal s19 (slotM gen s).length), (0, i64 gen), (1, str s)]) ([dev q30 (Dev.new 2), svSeg s19 5 (bytesV (slotM gen s))] ++ R) := by
              rintro at1 hIr16
              refine hK18 _ _ ?_
              refine cseq ?_; intro K19 hK19
              refine creg ?_
              refine y (ev_move rfl) rfl ?_
              refine y (ev_move rfl) rfl ?_
              refine y (ev_move rfl) rfl ?_
              refine ycall (secWrite (bs := slotM gen s) ?ok35 ?rd35) rfl Try.call18 (by repeat first | exact .nil | exact .z | apply Pk.s | apply Tk.cons) rfl ?_
              case ok35 => exact hU0.ok
              case rd35 => exact rdB_sv (by repeat first | exact .z | apply In.s) ok19
              rintro v L' ⟨rfl, rfl⟩
              have hw0 : ((Dev.new 2).write at1 (slotM gen s)).1 = 0 := by rw [hU0.write, if_neg (by omega), if_neg (by omega)]
              have hU1 := hU0.write_up at1 (slotM gen s)
              have hs1 := (hU0.sec_write_same hw0).1
              have hs2 : ∀ z : Int, 0 ≤ z → z < 2 → z ≠ at1 → ((Dev.new 2).write at1 (slotM gen s)).2.sec z = zsec := fun z z0 z1 hz => by
                rw [hU0.sec_write_other (i := z) (j := at1) (Ne.symm hz)]
                exact sec_new z0 z1
              generalize ((Dev.new 2).write at1 (slotM gen s)).2 = D1 at *
              have hE : openE D1 0 1 = 0 := openE_up hU1 (by decide) (by decide) (by decide)
              have hg1 := (slotOk_iff.1 hok).1
              have hC : (openC D1 0 1).gen = gen ∧ (openC D1 0 1).text = s := by
                rcases hIr16 with rfl | rfl
                · show (pickC 0 1 (readM (D1.sec 0)) (readM (D1.sec 1))).gen = gen ∧ _
                  unfold openC
                  rw [hs1, hs2 1 (by decide) (by decide) (by decide), readM_pad hok, readM_zero]
                  show _ ∧ (pickC 0 1 (some (gen, s)) none).text = s
                  rw [pick_sn 0 1 (p := (gen, s)) hg1]
                  exact ⟨rfl, rfl⟩
                · show (pickC 0 1 (readM (D1.sec 0)) (readM (D1.sec 1))).gen = gen ∧ _
                  unfold openC
                  rw [hs1, hs2 0 (by decide) (by decide) (by decide), readM_pad hok, readM_zero]
                  show _ ∧ (pickC 0 1 none (some (gen, s))).text = s
                  rw [pick_ns 0 1 (q := (gen, s)) hg1]
                  exact ⟨rfl, rfl⟩
              refine ynil' (kthn (hK19 _ _ ?_))
              clear hK19
              refine cseq ?_; intro K20 hK20
              refine creg ?_
              refine y (ev_move rfl) rfl ?_
              refine ycall (cOpenGood hU1.ok hE) rfl Try.call40 (by repeat first | exact .nil | exact .z | apply Pk.s | apply Tk.cons) rfl ?_
              rintro v L' ⟨c40, rfl, rfl⟩
              refine y (ev_move rfl) rfl ?_
              refine y (ev_extract rfl rfl) rfl ?_
              refine y (ev_extract rfl rfl) rfl ?_
              refine y (ev_assign rfl) rfl ?_
              refine y (ev_assign rfl) rfl ?_
              refine ynil' (kthn (hK20 _ _ ?_))
              clear hK20
              refine cseq ?_; intro K21 hK21
              refine creg ?_
              refine y (ev_move rfl) rfl ?_
              skip
              · skip
                refine y (ev_eql rfl rfl) rfl ?_
                refine y (ev_move rfl) rfl ?_
                refine yg1 rfl rfl ?_
                refine y (ev_move rfl) rfl ?_
                refine yg1 rfl rfl ?_
                refine y (ev_neqPnil rfl rfl Try.underlying61) rfl ?_
                refine y (ev_pick1 rfl rfl) rfl ?_
                refine y (ev_move rfl) rfl ?_
                refine yg1 rfl rfl ?_
                refine y (ev_move rfl) rfl ?_
                refine yg1 rfl rfl ?_
                refine ycall (cGet) rfl Try.call41 (by repeat first | exact .nil | exact .z | apply Pk.s | apply Tk.cons) rfl ?_
                rintro v L' ⟨rfl, rfl⟩
                rw [hC.2]
                refine yg1 rfl rfl ?_
                refine y (ev_move rfl) rfl ?_
                refine yg1 rfl rfl ?_
                first
                  | refine y (ev_eqlL rfl rfl) rfl ?_
                  | refine y (ev_eqlS rfl rfl) rfl ?_
                rw [show decide (s = s) = true by simp]
                refine y (ev_pick1 rfl rfl) rfl ?_
                refine y (ev_move rfl) rfl ?_
                refine yg1 rfl rfl ?_
                refine y (ev_move rfl) rfl ?_
                refine yg1 rfl rfl ?_
                refine ycall (cGen) rfl Try.call42 (by repeat first | exact .nil | exact .z | apply Pk.s | apply Tk.cons) rfl ?_
                rintro v L' ⟨rfl, rfl⟩
                rw [hC.1]
                refine yg1 rfl rfl ?_
                refine y (ev_move rfl) rfl ?_
                refine yg1 rfl rfl ?_
                refine y (ev_eql rfl rfl) rfl ?_
                rw [show decide (gen = gen) = true by simp]
                refine y (ev_pick1 rfl rfl) rfl ?_
                refine y (ev_assign rfl) rfl ?_
                refine ynil' (kthn (hK21 _ _ ?_))
                clear hK21
                refine cret ?_
                first
                  | (exfalso; omega; done)
                  | (refine kretv Try.results9 rfl (L1 := R) (by repeat first | exact .refl | exact .nil | exact .z | apply Pk.s | refine Ge.e ?_ | apply Ge.pick | apply Ge.drop) ?_
                     exact ⟨_, ⟨by first | rfl | (exfalso; simp_all; done), rfl⟩, by first | rfl | (exfalso; simp_all; done)⟩)
            clear hK18
            refine cseq ?_; intro K22 hK22
            refine creg ?_
            refine y (ev_move rfl) rfl ?_
            refine ynil' (kthn (hK22 _ _ ?_))
            clear hK22
            refine ccond rfl (fun h63 => ?_) (fun h63 => ?_)
            · (try simp only [decide_eq_true_eq, beq_iff_eq, beq_eq_false_iff_ne, decide_eq_decide, decide_eq_false_iff_not, Bool.not_eq_true', Bool.not_eq_false', Bool.not_eq_true, Bool.not_eq_false, Bool.not_not, ne_eq, Option.isNone_some, Option.isSome_some, Option.isNone_none, Option.isSome_none] at h63)
              refine creg ?_
              refine y (ev_assign rfl) rfl ?_
              refine ynil' (kthn ?_)
              first
                | (exfalso; omega; done)
                | exact ksub (by repeat first | exact sub_nil | refine sub_cons rfl ?_ | refine sub_cons' rfl (by simp) ?_) (by repeat first | exact .refl | exact .nil | exact .z | apply Pk.s | refine Ge.e ?_ | apply Ge.pick | apply Ge.drop) (hJr16 _ (by first | exact .inl rfl | exact .inr rfl))
            · (try simp only [decide_eq_true_eq, beq_iff_eq, beq_eq_false_iff_ne, decide_eq_decide, decide_eq_false_iff_not, Bool.not_eq_true', Bool.not_eq_false', Bool.not_eq_true, Bool.not_eq_false, Bool.not_not, ne_eq, Option.isNone_some, Option.isSome_some, Option.isNone_none, Option.isSome_none] at h63)
              refine cskip' (kthn ?_)
              first
                | (exfalso; omega; done)
                | exact ksub (by repeat first | exact sub_nil | refine sub_cons rfl ?_ | refine sub_cons' rfl (by simp) ?_) (by repeat first | exact .refl | exact .nil | exact .z | apply Pk.s | refine Ge.e ?_ | apply Ge.pick | apply Ge.drop) (hJr16 _ (by first | exact .inl rfl | exact .inr rfl))
end W
end Go.Proofs
