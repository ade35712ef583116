/- A part of the proof: contracts and plain lemmas, each without conditions beyond those that it names. -/
import Derived.Test.YtnedokioglfipaaT11
import Derived.Test.YtnedokioglfipaaGG
set_option linter.unusedVariables false
set_option linter.unusedSimpArgs false
set_option linter.constructorNameAsVariable false
namespace Go.Proofs
open Go Go.Sl
namespace W
set_option linter.unusedVariables false
theorem lawApart [Env] {R : List Seg} {g h : Int} {s t : Bytes} (hg1 : -9223372036854775808 ≤ g) (hg2 : g ≤ 9223372036854775807) (hh1 : -9223372036854775808 ≤ h) (hh2 : h ≤ 9223372036854775807) :
    Con Try.prog 12 [i64 g, i64 h, str s, str t] [] R (Is (.bool true) []) := by
  have hlA := slotM_le g s
  have hlB := slotM_le h t
  refine con_enter Try.func12 Try.ntmps12 rfl rfl ?_
  refine cseq ?_; intro K1 hK1
  refine creg ?_
  refine y (ev_assign rfl) rfl ?_
  refine ynil' (kthn (hK1 _ _ ?_))
  clear hK1
  refine cseq ?_; intro K2 hK2
  refine cseq ?_; intro K3 hK3
  refine creg ?_
  refine ycall (awake5) rfl Try.call37 (by repeat first | exact .nil | exact .z | apply Pk.s | apply Tk.cons) rfl ?_
  rintro v L' ⟨rfl, rfl⟩
  refine y (ev_not rfl) rfl ?_
  refine ynil' (kthn (hK3 _ _ ?_))
  clear hK3
  refine ccond rfl (fun h4 => ?_) (fun h4 => ?_)
  · (try simp only [decide_eq_true_eq, beq_iff_eq, beq_eq_false_iff_ne, decide_eq_decide, decide_eq_false_iff_not, Bool.not_eq_true', Bool.not_eq_false', Bool.not_eq_true, Bool.not_eq_false, Bool.not_not, ne_eq, Option.isNone_some, Option.isSome_some, Option.isNone_none, Option.isSome_none] at h4)
    refine cseq ?_; intro K4 hK4
    refine creg ?_
    refine y (ev_assign rfl) rfl ?_
    refine ynil' (kthn (hK4 _ _ ?_))
    clear hK4
    refine cret (kthr ?_)
    first
      | (exfalso; omega; done)
      | (refine kretv Try.results12 rfl (L1 := R) (by repeat first | exact .refl | exact .nil | exact .z | apply Pk.s | refine Ge.e ?_ | apply Ge.pick | apply Ge.drop) ?_
         exact ⟨_, ⟨by first | rfl | simp_all, rfl⟩, by first | rfl | simp_all⟩)
  · (try simp only [decide_eq_true_eq, beq_iff_eq, beq_eq_false_iff_ne, decide_eq_decide, decide_eq_false_iff_not, Bool.not_eq_true', Bool.not_eq_false', Bool.not_eq_true, Bool.not_eq_false, Bool.not_not, ne_eq, Option.isNone_some, Option.isSome_some, Option.isNone_none, Option.isSome_none] at h4)
    refine cskip' (kthn (hK2 _ _ ?_))
    clear hK2
    refine cseq ?_; intro K5 hK5
    refine cseq ?_; intro K6 hK6
    refine creg ?_
    refine y (ev_move rfl) rfl ?_
    first
      | refine y (ev_lenStr rfl Try.underlying9) rfl ?_
      | refine y (ev_lenS rfl Try.underlying9) rfl ?_
    refine y (ev_gtr rfl rfl) rfl ?_
    refine y (ev_move rfl) rfl ?_
    refine ysplit 17 rfl (fun h10 => ?_) (fun h10 => ?_)
    · (try simp only [decide_eq_true_eq, beq_iff_eq, beq_eq_false_iff_ne, decide_eq_decide, decide_eq_false_iff_not, Bool.not_eq_true', Bool.not_eq_false', Bool.not_eq_true, Bool.not_eq_false, Bool.not_not, ne_eq, Option.isNone_some, Option.isSome_some, Option.isNone_none, Option.isSome_none] at h10)
      refine yg0 rfl rfl rfl rfl ?_
      refine yg0 rfl rfl rfl rfl ?_
      refine yg0 rfl rfl rfl rfl ?_
      refine y (ev_pick1 rfl rfl) rfl ?_
      refine ynil' (kthn (hK6 _ _ ?_))
      clear hK6
      refine ccond1 rfl ?_
      refine cseq ?_; intro K7 hK7
      refine creg ?_
      refine y (ev_assign rfl) rfl ?_
      refine ynil' (kthn (hK7 _ _ ?_))
      clear hK7
      refine cret (kthr ?_)
      first
        | (exfalso; omega; done)
        | (refine kretv Try.results12 rfl (L1 := R) (by repeat first | exact .refl | exact .nil | exact .z | apply Pk.s | refine Ge.e ?_ | apply Ge.pick | apply Ge.drop) ?_
           exact ⟨_, ⟨by first | rfl | simp_all, rfl⟩, by first | rfl | simp_all⟩)
    · (try simp only [decide_eq_true_eq, beq_iff_eq, beq_eq_false_iff_ne, decide_eq_decide, decide_eq_false_iff_not, Bool.not_eq_true', Bool.not_eq_false', Bool.not_eq_true, Bool.not_eq_false, Bool.not_not, ne_eq, Option.isNone_some, Option.isSome_some, Option.isNone_none, Option.isSome_none] at h10)
      refine yg1 rfl rfl ?_
      refine y (ev_move rfl) rfl ?_
      refine yg1 rfl rfl ?_
      first
        | refine y (ev_lenStr rfl Try.underlying9) rfl ?_
        | refine y (ev_lenS rfl Try.underlying9) rfl ?_
      refine yg1 rfl rfl ?_
      refine y (ev_gtr rfl rfl) rfl ?_
      refine y (ev_pick0 rfl rfl) rfl ?_
      refine ynil' (kthn (hK6 _ _ ?_))
      clear hK6
      refine ccond rfl (fun h17 => ?_) (fun h17 => ?_)
      · (try simp only [decide_eq_true_eq, beq_iff_eq, beq_eq_false_iff_ne, decide_eq_decide, decide_eq_false_iff_not, Bool.not_eq_true', Bool.not_eq_false', Bool.not_eq_true, Bool.not_eq_false, Bool.not_not, ne_eq, Option.isNone_some, Option.isSome_some, Option.isNone_none, Option.isSome_none] at h17)
        refine cseq ?_; intro K8 hK8
        refine creg ?_
        refine y (ev_assign rfl) rfl ?_
        refine ynil' (kthn (hK8 _ _ ?_))
        clear hK8
        refine cret (kthr ?_)
        first
          | (exfalso; omega; done)
          | (refine kretv Try.results12 rfl (L1 := R) (by repeat first | exact .refl | exact .nil | exact .z | apply Pk.s | refine Ge.e ?_ | apply Ge.pick | apply Ge.drop) ?_
             exact ⟨_, ⟨by first | rfl | simp_all, rfl⟩, by first | rfl | simp_all⟩)
      · (try simp only [decide_eq_true_eq, beq_iff_eq, beq_eq_false_iff_ne, decide_eq_decide, decide_eq_false_iff_not, Bool.not_eq_true', Bool.not_eq_false', Bool.not_eq_true, Bool.not_eq_false, Bool.not_not, ne_eq, Option.isNone_some, Option.isSome_some, Option.isNone_none, Option.isSome_none] at h17)
        refine cskip' (kthn (hK5 _ _ ?_))
        clear hK5
        refine cseq ?_; intro K9 hK9
        refine creg ?_
        refine y (ev_move rfl) rfl ?_
        refine y (ev_move rfl) rfl ?_
        refine ycall (cSlot (gen := g) (s := s) ?lo21 ?hi21) rfl Try.call38 (by repeat first | exact .nil | exact .z | apply Pk.s | apply Tk.cons) rfl ?_
        case lo21 => omega
        case hi21 => omega
        rintro v L' ⟨s24, rfl, ok24, rfl⟩
        refine y (ev_move rfl) rfl ?_
        refine y (ev_move rfl) rfl ?_
        refine ycall (cSlot (gen := h) (s := t) ?lo24 ?hi24) rfl Try.call38 (by repeat first | exact .nil | exact .z | apply Pk.s | apply Tk.cons) rfl ?_
        case lo24 => omega
        case hi24 => omega
        rintro v L' ⟨s27, rfl, ok27, rfl⟩
        refine y (ev_assign rfl) rfl ?_
        refine y (ev_assign rfl) rfl ?_
        refine ynil' (kthn (hK9 _ _ ?_))
        clear hK9
        refine cseq ?_; intro K10 hK10
        refine cseq ?_; intro K11 hK11
        refine creg ?_
        refine y (ev_move rfl) rfl ?_
        first
          | refine y (ev_len rfl Try.underlying27) rfl ?_
          | refine y (ev_lenSv rfl Try.underlying27 (by assumption)) rfl ?_
          | refine y (ev_lenV rfl Try.underlying27 (RdV.lenVal (by assumption))) rfl ?_
          | refine y (ev_lenV rfl Try.underlying27 (RdB.lenVal (by assumption))) rfl ?_
        refine y (ev_eql rfl rfl) rfl ?_
        refine y (ev_move rfl) rfl ?_
        refine ysplit 31 rfl (fun h31 => ?_) (fun h31 => ?_)
        · (try simp only [decide_eq_true_eq, beq_iff_eq, beq_eq_false_iff_ne, decide_eq_decide, decide_eq_false_iff_not, Bool.not_eq_true', Bool.not_eq_false', Bool.not_eq_true, Bool.not_eq_false, Bool.not_not, ne_eq, Option.isNone_some, Option.isSome_some, Option.isNone_none, Option.isSome_none] at h31)
          refine yg0 rfl rfl rfl rfl ?_
          refine yg0 rfl rfl rfl rfl ?_
          refine yg0 rfl rfl rfl rfl ?_
          refine y (ev_pick1 rfl rfl) rfl ?_
          refine ynil' (kthn (hK11 _ _ ?_))
          clear hK11
          refine ccond1 rfl ?_
          refine cseq ?_; intro K12 hK12
          refine creg ?_
          refine y (ev_assign rfl) rfl ?_
          refine ynil' (kthn (hK12 _ _ ?_))
          clear hK12
          refine cret (kthr ?_)
          first
            | (exfalso; omega; done)
            | (refine kretv Try.results12 rfl (L1 := R) (by repeat first | exact .refl | exact .nil | exact .z | apply Pk.s | refine Ge.e ?_ | apply Ge.pick | apply Ge.drop) ?_
               exact ⟨_, ⟨by first | rfl | simp_all, rfl⟩, by first | rfl | simp_all⟩)
        · (try simp only [decide_eq_true_eq, beq_iff_eq, beq_eq_false_iff_ne, decide_eq_decide, decide_eq_false_iff_not, Bool.not_eq_true', Bool.not_eq_false', Bool.not_eq_true, Bool.not_eq_false, Bool.not_not, ne_eq, Option.isNone_some, Option.isSome_some, Option.isNone_none, Option.isSome_none] at h31)
          refine yg1 rfl rfl ?_
          refine y (ev_move rfl) rfl ?_
          refine yg1 rfl rfl ?_
          first
            | refine y (ev_len rfl Try.underlying27) rfl ?_
            | refine y (ev_lenSv rfl Try.underlying27 (by assumption)) rfl ?_
            | refine y (ev_lenV rfl Try.underlying27 (RdV.lenVal (by assumption))) rfl ?_
            | refine y (ev_lenV rfl Try.underlying27 (RdB.lenVal (by assumption))) rfl ?_
          refine yg1 rfl rfl ?_
          refine y (ev_eql rfl rfl) rfl ?_
          refine y (ev_pick0 rfl rfl) rfl ?_
          refine ynil' (kthn (hK11 _ _ ?_))
          clear hK11
          refine ccond rfl (fun h38 => ?_) (fun h38 => ?_)
          · (try simp only [decide_eq_true_eq, beq_iff_eq, beq_eq_false_iff_ne, decide_eq_decide, decide_eq_false_iff_not, Bool.not_eq_true', Bool.not_eq_false', Bool.not_eq_true, Bool.not_eq_false, Bool.not_not, ne_eq, Option.isNone_some, Option.isSome_some, Option.isNone_none, Option.isSome_none] at h38)
            refine cseq ?_; intro K13 hK13
            refine creg ?_
            refine y (ev_assign rfl) rfl ?_
            refine ynil' (kthn (hK13 _ _ ?_))
            clear hK13
            refine cret (kthr ?_)
            first
              | (exfalso; omega; done)
              | (refine kretv Try.results12 rfl (L1 := R) (by repeat first | exact .refl | exact .nil | exact .z | apply Pk.s | refine Ge.e ?_ | apply Ge.pick | apply Ge.drop) ?_
                 exact ⟨_, ⟨by first | rfl | simp_all, rfl⟩, by first | rfl | simp_all⟩)
          · (try simp only [decide_eq_true_eq, beq_iff_eq, beq_eq_false_iff_ne, decide_eq_decide, decide_eq_false_iff_not, Bool.not_eq_true', Bool.not_eq_false', Bool.not_eq_true, Bool.not_eq_false, Bool.not_not, ne_eq, Option.isNone_some, Option.isSome_some, Option.isNone_none, Option.isSome_none] at h38)
            refine cskip' (kthn (hK10 _ _ ?_))
            clear hK10
            refine cseq ?_; intro K14 hK14
            refine creg ?_
            refine y (ev_move rfl) rfl ?_
            first
              | refine y (ev_len rfl Try.underlying27) rfl ?_
              | refine y (ev_lenSv rfl Try.underlying27 (by assumption)) rfl ?_
              | refine y (ev_lenV rfl Try.underlying27 (RdV.lenVal (by assumption))) rfl ?_
              | refine y (ev_lenV rfl Try.underlying27 (RdB.lenVal (by assumption))) rfl ?_
            refine y (ev_move rfl) rfl ?_
            first
              | refine y (ev_len rfl Try.underlying27) rfl ?_
              | refine y (ev_lenSv rfl Try.underlying27 (by assumption)) rfl ?_
              | refine y (ev_lenV rfl Try.underlying27 (RdV.lenVal (by assumption))) rfl ?_
              | refine y (ev_lenV rfl Try.underlying27 (RdB.lenVal (by assumption))) rfl ?_
            refine y (ev_min rfl rfl) rfl ?_
            rw [show (if ((slotM h t).length : Int) < (slotM g s).length then ((slotM h t).length : Int) else (slotM g s).length) = ((min (slotM g s).length (slotM h t).length : Nat) : Int) by split <;> omega]
            refine y (ev_assign rfl) rfl ?_
            refine ynil' (kthn (hK14 _ _ ?_))
            clear hK14
            refine cseq ?_; intro K15 hK15
            refine cdraw 42 [(0, true), (1, true), (2, true), (3, true), (4, true), (5, true), (6, true), (7, true), (8, true), (9, true), (10, true), (11, true), (12, true), (13, true), (14, true), (15, true), (16, true), (17, true), (18, true), (19, true), (20, true), (21, true), (22, true), (23, true), (24, true), (25, true), (26, true), (27, true), (28, true), (29, true), (30, true), (31, true), (32, true), (33, true), (34, true), (35, true), (36, true), (37, true), (38, true), (39, true), (40, true), (41, true)] (_) Try.mixed (by kernel_rfl) .refl ?_
            have hyA : RdY [svSeg s24 5 (bytesV (slotM g s))] (svVal s24 (slotM g s).length) (slotM g s) := rdY_sv .z ok24
            have hyB : RdY [svSeg s27 5 (bytesV (slotM h t))] (svVal s27 (slotM h t).length) (slotM h t) := rdY_sv .z ok27
            have hsA : slotOk g s = true := slotM_ne (by omega)
            have hsB : slotOk h t = true := slotM_ne (by omega)
            obtain ⟨-, hA9⟩ := slotM_len hsA
            obtain ⟨-, hB9⟩ := slotM_len hsB
            have hcase := slots_cases hsA hsB
            rcases hcase with ⟨h54, h58, h51, h71⟩ | ⟨h54, h58, h51, h71⟩ | ⟨h54, h58, h51, h71⟩
            · skip
              have hyA : RdY [svSeg s24 5 (bytesV (slotM g s))] (svVal s24 (slotM g s).length) (slotM g s) := rdY_sv .z ok24
              have hyB : RdY [svSeg s27 5 (bytesV (slotM h t))] (svVal s27 (slotM h t).length) (slotM h t) := rdY_sv .z ok27
              have hsA : slotOk g s = true := slotM_ne (by omega)
              have hsB : slotOk h t = true := slotM_ne (by omega)
              obtain ⟨-, hA9⟩ := slotM_len hsA
              obtain ⟨-, hB9⟩ := slotM_len hsB
              have hcase := slots_cases hsA hsB
              refine hr rfl (ev_move rfl) rfl ?_
              first
                | refine hr rfl (ev_len rfl Try.underlying27) rfl ?_
                | refine hr rfl (ev_lenSv rfl Try.underlying27 (by assumption)) rfl ?_
                | refine hr rfl (ev_lenV rfl Try.underlying27 (RdV.lenVal (by assumption))) rfl ?_
                | refine hr rfl (ev_lenV rfl Try.underlying27 (RdB.lenVal (by assumption))) rfl ?_
              refine hr rfl (ev_leq rfl rfl) rfl ?_
              rw [show decide (((slotM g s).length : Int) ≤ 144) = true by simp; omega]
              refine hr rfl (ev_move rfl) rfl ?_
              refine hr1 rfl rfl rfl (ev_move rfl) rfl ?_
              refine hr1 rfl rfl rfl (ev_slLV hyA.rd rfl rfl Try.underlying27 Try.sizeOf5 (by omega) (by omega)) rfl ?_
              refine hr1 rfl rfl rfl (ev_toStrB (hyA.drop (k := 4) (by omega)).rd.bytes (by repeat first | exact .refl | exact .nil | exact .z | apply Pk.s | refine Ge.e ?_ | apply Ge.pick | apply Ge.drop) rfl Try.underlying27 Try.underlying9 Try.underlying5) rfl ?_
              refine hr1 rfl rfl rfl (ev_move rfl) rfl ?_
              refine hr1 rfl rfl rfl (ev_slLV hyB.rd rfl rfl Try.underlying27 Try.sizeOf5 (by omega) (by omega)) rfl ?_
              refine hr1 rfl rfl rfl (ev_toStrB (hyB.drop (k := 4) (by omega)).rd.bytes (by repeat first | exact .refl | exact .nil | exact .z | apply Pk.s | refine Ge.e ?_ | apply Ge.pick | apply Ge.drop) rfl Try.underlying27 Try.underlying9 Try.underlying5) rfl ?_
              first
                | refine hr1 rfl rfl rfl (ev_eqlL rfl rfl) rfl ?_
                | refine hr1 rfl rfl rfl (ev_eqlS rfl rfl) rfl ?_
              rw [h51]
              refine hr1 rfl rfl rfl (ev_move rfl) rfl ?_
              refine hr1 rfl rfl rfl (ev_move rfl) rfl ?_
              refine hr1 rfl rfl rfl (ev_eql rfl rfl) rfl ?_
              rw [h54]
              refine hr1 rfl rfl rfl (ev_move rfl) rfl ?_
              refine hr1 rfl rfl rfl (ev_move rfl) rfl ?_
              refine hr1 rfl rfl rfl (ev_move rfl) rfl ?_
              first
                | refine hr1 rfl rfl rfl (ev_eqlL rfl rfl) rfl ?_
                | refine hr1 rfl rfl rfl (ev_eqlS rfl rfl) rfl ?_
              rw [h58]
              refine hr1 rfl rfl rfl (ev_pick1 rfl rfl) rfl ?_
              refine hr1 rfl rfl rfl (ev_eqlB rfl rfl Try.underlying4) rfl ?_
              refine hr rfl (ev_pick1 rfl rfl) rfl ?_
              refine hr rfl (ev_move rfl) rfl ?_
              refine hr1 rfl rfl rfl (ev_move rfl) rfl ?_
              refine hr1 rfl rfl rfl (ev_move rfl) rfl ?_
              refine hr1 rfl rfl rfl (ev_slHV hyA.rd hyA.cap rfl rfl Try.underlying27 Try.sizeOf5 (by omega) (by omega)) rfl ?_
              refine hr1 rfl rfl rfl (ev_toStrB (hyA.take (k := min (slotM g s).length (slotM h t).length) (by omega)).rd.bytes (by repeat first | exact .refl | exact .nil | exact .z | apply Pk.s | refine Ge.e ?_ | apply Ge.pick | apply Ge.drop) rfl Try.underlying27 Try.underlying9 Try.underlying5) rfl ?_
              refine hr1 rfl rfl rfl (ev_move rfl) rfl ?_
              refine hr1 rfl rfl rfl (ev_move rfl) rfl ?_
              refine hr1 rfl rfl rfl (ev_slHV hyB.rd hyB.cap rfl rfl Try.underlying27 Try.sizeOf5 (by omega) (by omega)) rfl ?_
              refine hr1 rfl rfl rfl (ev_toStrB (hyB.take (k := min (slotM g s).length (slotM h t).length) (by omega)).rd.bytes (by repeat first | exact .refl | exact .nil | exact .z | apply Pk.s | refine Ge.e ?_ | apply Ge.pick | apply Ge.drop) rfl Try.underlying27 Try.underlying9 Try.underlying5) rfl ?_
              first
                | refine hr1 rfl rfl rfl (ev_neqL rfl rfl) rfl ?_
                | refine hr1 rfl rfl rfl (ev_neqS rfl rfl) rfl ?_
              rw [h71]
              refine hr1 rfl rfl rfl (ev_move rfl) rfl ?_
              refine hr1 rfl rfl rfl (ev_move rfl) rfl ?_
              refine hr1 rfl rfl rfl (ev_move rfl) rfl ?_
              refine hr1 rfl rfl rfl (ev_eql rfl rfl) rfl ?_
              rw [h54]
              refine hr1 rfl rfl rfl (ev_move rfl) rfl ?_
              refine hr1 rfl rfl rfl (ev_move rfl) rfl ?_
              refine hr1 rfl rfl rfl (ev_move rfl) rfl ?_
              first
                | refine hr1 rfl rfl rfl (ev_eqlL rfl rfl) rfl ?_
                | refine hr1 rfl rfl rfl (ev_eqlS rfl rfl) rfl ?_
              rw [h58]
              refine hr1 rfl rfl rfl (ev_pick1 rfl rfl) rfl ?_
              refine hr1 rfl rfl rfl (ev_pick0 rfl rfl) rfl ?_
              refine hr rfl (ev_pick1 rfl rfl) rfl ?_
              refine hnil ?_
              refine y (ev_assign rfl) rfl ?_
              refine hnoP' (kthn (hK15 _ _ ?_))
              clear hK15
              refine cret ?_
              first
                | (exfalso; omega; done)
                | (refine kretv Try.results12 rfl (L1 := R) (by repeat first | exact .refl | exact .nil | exact .z | apply Pk.s | refine Ge.e ?_ | apply Ge.pick | apply Ge.drop) ?_
                   exact ⟨_, ⟨by first | rfl | simp_all, rfl⟩, by first | rfl | simp_all⟩)
            · skip
              have hyA : RdY [svSeg s24 5 (bytesV (slotM g s))] (svVal s24 (slotM g s).length) (slotM g s) := rdY_sv .z ok24
              have hyB : RdY [svSeg s27 5 (bytesV (slotM h t))] (svVal s27 (slotM h t).length) (slotM h t) := rdY_sv .z ok27
              have hsA : slotOk g s = true := slotM_ne (by omega)
              have hsB : slotOk h t = true := slotM_ne (by omega)
              obtain ⟨-, hA9⟩ := slotM_len hsA
              obtain ⟨-, hB9⟩ := slotM_len hsB
              have hcase := slots_cases hsA hsB
              refine hr rfl (ev_move rfl) rfl ?_
              first
                | refine hr rfl (ev_len rfl Try.underlying27) rfl ?_
                | refine hr rfl (ev_lenSv rfl Try.underlying27 (by assumption)) rfl ?_
                | refine hr rfl (ev_lenV rfl Try.underlying27 (RdV.lenVal (by assumption))) rfl ?_
                | refine hr rfl (ev_lenV rfl Try.underlying27 (RdB.lenVal (by assumption))) rfl ?_
              refine hr rfl (ev_leq rfl rfl) rfl ?_
              rw [show decide (((slotM g s).length : Int) ≤ 144) = true by simp; omega]
              refine hr rfl (ev_move rfl) rfl ?_
              refine hr1 rfl rfl rfl (ev_move rfl) rfl ?_
              refine hr1 rfl rfl rfl (ev_slLV hyA.rd rfl rfl Try.underlying27 Try.sizeOf5 (by omega) (by omega)) rfl ?_
              refine hr1 rfl rfl rfl (ev_toStrB (hyA.drop (k := 4) (by omega)).rd.bytes (by repeat first | exact .refl | exact .nil | exact .z | apply Pk.s | refine Ge.e ?_ | apply Ge.pick | apply Ge.drop) rfl Try.underlying27 Try.underlying9 Try.underlying5) rfl ?_
              refine hr1 rfl rfl rfl (ev_move rfl) rfl ?_
              refine hr1 rfl rfl rfl (ev_slLV hyB.rd rfl rfl Try.underlying27 Try.sizeOf5 (by omega) (by omega)) rfl ?_
              refine hr1 rfl rfl rfl (ev_toStrB (hyB.drop (k := 4) (by omega)).rd.bytes (by repeat first | exact .refl | exact .nil | exact .z | apply Pk.s | refine Ge.e ?_ | apply Ge.pick | apply Ge.drop) rfl Try.underlying27 Try.underlying9 Try.underlying5) rfl ?_
              first
                | refine hr1 rfl rfl rfl (ev_eqlL rfl rfl) rfl ?_
                | refine hr1 rfl rfl rfl (ev_eqlS rfl rfl) rfl ?_
              rw [h51]
              refine hr1 rfl rfl rfl (ev_move rfl) rfl ?_
              refine hr1 rfl rfl rfl (ev_move rfl) rfl ?_
              refine hr1 rfl rfl rfl (ev_eql rfl rfl) rfl ?_
              rw [h54]
              refine hr1 rfl rfl rfl (ev_move rfl) rfl ?_
              refine hr0 rfl rfl rfl rfl rfl ?_
              refine hr0 rfl rfl rfl rfl rfl ?_
              refine hr0 rfl rfl rfl rfl rfl ?_
              refine hr1 rfl rfl rfl (ev_pick0 rfl rfl) rfl ?_
              refine hr1 rfl rfl rfl (ev_eqlB rfl rfl Try.underlying4) rfl ?_
              refine hr rfl (ev_pick1 rfl rfl) rfl ?_
              refine hr rfl (ev_move rfl) rfl ?_
              refine hr1 rfl rfl rfl (ev_move rfl) rfl ?_
              refine hr1 rfl rfl rfl (ev_move rfl) rfl ?_
              refine hr1 rfl rfl rfl (ev_slHV hyA.rd hyA.cap rfl rfl Try.underlying27 Try.sizeOf5 (by omega) (by omega)) rfl ?_
              refine hr1 rfl rfl rfl (ev_toStrB (hyA.take (k := min (slotM g s).length (slotM h t).length) (by omega)).rd.bytes (by repeat first | exact .refl | exact .nil | exact .z | apply Pk.s | refine Ge.e ?_ | apply Ge.pick | apply Ge.drop) rfl Try.underlying27 Try.underlying9 Try.underlying5) rfl ?_
              refine hr1 rfl rfl rfl (ev_move rfl) rfl ?_
              refine hr1 rfl rfl rfl (ev_move rfl) rfl ?_
              refine hr1 rfl rfl rfl (ev_slHV hyB.rd hyB.cap rfl rfl Try.underlying27 Try.sizeOf5 (by omega) (by omega)) rfl ?_
              refine hr1 rfl rfl rfl (ev_toStrB (hyB.take (k := min (slotM g s).length (slotM h t).length) (by omega)).rd.bytes (by repeat first | exact .refl | exact .nil | exact .z | apply Pk.s | refine Ge.e ?_ | apply Ge.pick | apply Ge.drop) rfl Try.underlying27 Try.underlying9 Try.underlying5) rfl ?_
              first
                | refine hr1 rfl rfl rfl (ev_neqL rfl rfl) rfl ?_
                | refine hr1 rfl rfl rfl (ev_neqS rfl rfl) rfl ?_
              rw [h71]
              refine hr1 rfl rfl rfl (ev_move rfl) rfl ?_
              refine hr0 rfl rfl rfl rfl rfl ?_
              refine hr0 rfl rfl rfl rfl rfl ?_
              refine hr0 rfl rfl rfl rfl rfl ?_
              refine hr0 rfl rfl rfl rfl rfl ?_
              refine hr0u rfl rfl rfl rfl ?_
              refine hr0u rfl rfl rfl rfl ?_
              refine hr0u rfl rfl rfl rfl ?_
              refine hr0 rfl rfl rfl rfl rfl ?_
              refine hr1 rfl rfl rfl (ev_pick1 rfl rfl) rfl ?_
              refine hr rfl (ev_pick1 rfl rfl) rfl ?_
              refine hnil ?_
              refine y (ev_assign rfl) rfl ?_
              refine hnoP' (kthn (hK15 _ _ ?_))
              clear hK15
              refine cret ?_
              first
                | (exfalso; omega; done)
                | (refine kretv Try.results12 rfl (L1 := R) (by repeat first | exact .refl | exact .nil | exact .z | apply Pk.s | refine Ge.e ?_ | apply Ge.pick | apply Ge.drop) ?_
                   exact ⟨_, ⟨by first | rfl | simp_all, rfl⟩, by first | rfl | simp_all⟩)
            · skip
              have hyA : RdY [svSeg s24 5 (bytesV (slotM g s))] (svVal s24 (slotM g s).length) (slotM g s) := rdY_sv .z ok24
              have hyB : RdY [svSeg s27 5 (bytesV (slotM h t))] (svVal s27 (slotM h t).length) (slotM h t) := rdY_sv .z ok27
              have hsA : slotOk g s = true := slotM_ne (by omega)
              have hsB : slotOk h t = true := slotM_ne (by omega)
              obtain ⟨-, hA9⟩ := slotM_len hsA
              obtain ⟨-, hB9⟩ := slotM_len hsB
              have hcase := slots_cases hsA hsB
              refine hr rfl (ev_move rfl) rfl ?_
              first
                | refine hr rfl (ev_len rfl Try.underlying27) rfl ?_
                | refine hr rfl (ev_lenSv rfl Try.underlying27 (by assumption)) rfl ?_
                | refine hr rfl (ev_lenV rfl Try.underlying27 (RdV.lenVal (by assumption))) rfl ?_
                | refine hr rfl (ev_lenV rfl Try.underlying27 (RdB.lenVal (by assumption))) rfl ?_
              refine hr rfl (ev_leq rfl rfl) rfl ?_
              rw [show decide (((slotM g s).length : Int) ≤ 144) = true by simp; omega]
              refine hr rfl (ev_move rfl) rfl ?_
              refine hr1 rfl rfl rfl (ev_move rfl) rfl ?_
              refine hr1 rfl rfl rfl (ev_slLV hyA.rd rfl rfl Try.underlying27 Try.sizeOf5 (by omega) (by omega)) rfl ?_
              refine hr1 rfl rfl rfl (ev_toStrB (hyA.drop (k := 4) (by omega)).rd.bytes (by repeat first | exact .refl | exact .nil | exact .z | apply Pk.s | refine Ge.e ?_ | apply Ge.pick | apply Ge.drop) rfl Try.underlying27 Try.underlying9 Try.underlying5) rfl ?_
              refine hr1 rfl rfl rfl (ev_move rfl) rfl ?_
              refine hr1 rfl rfl rfl (ev_slLV hyB.rd rfl rfl Try.underlying27 Try.sizeOf5 (by omega) (by omega)) rfl ?_
              refine hr1 rfl rfl rfl (ev_toStrB (hyB.drop (k := 4) (by omega)).rd.bytes (by repeat first | exact .refl | exact .nil | exact .z | apply Pk.s | refine Ge.e ?_ | apply Ge.pick | apply Ge.drop) rfl Try.underlying27 Try.underlying9 Try.underlying5) rfl ?_
              first
                | refine hr1 rfl rfl rfl (ev_eqlL rfl rfl) rfl ?_
                | refine hr1 rfl rfl rfl (ev_eqlS rfl rfl) rfl ?_
              rw [h51]
              refine hr1 rfl rfl rfl (ev_move rfl) rfl ?_
              refine hr1 rfl rfl rfl (ev_move rfl) rfl ?_
              refine hr1 rfl rfl rfl (ev_eql rfl rfl) rfl ?_
              rw [h54]
              refine hr1 rfl rfl rfl (ev_move rfl) rfl ?_
              refine hr1 rfl rfl rfl (ev_move rfl) rfl ?_
              refine hr1 rfl rfl rfl (ev_move rfl) rfl ?_
              first
                | refine hr1 rfl rfl rfl (ev_eqlL rfl rfl) rfl ?_
                | refine hr1 rfl rfl rfl (ev_eqlS rfl rfl) rfl ?_
              rw [h58]
              refine hr1 rfl rfl rfl (ev_pick1 rfl rfl) rfl ?_
              refine hr1 rfl rfl rfl (ev_eqlB rfl rfl Try.underlying4) rfl ?_
              refine hr rfl (ev_pick1 rfl rfl) rfl ?_
              refine hr rfl (ev_move rfl) rfl ?_
              refine hr1 rfl rfl rfl (ev_move rfl) rfl ?_
              refine hr1 rfl rfl rfl (ev_move rfl) rfl ?_
              refine hr1 rfl rfl rfl (ev_slHV hyA.rd hyA.cap rfl rfl Try.underlying27 Try.sizeOf5 (by omega) (by omega)) rfl ?_
              refine hr1 rfl rfl rfl (ev_toStrB (hyA.take (k := min (slotM g s).length (slotM h t).length) (by omega)).rd.bytes (by repeat first | exact .refl | exact .nil | exact .z | apply Pk.s | refine Ge.e ?_ | apply Ge.pick | apply Ge.drop) rfl Try.underlying27 Try.underlying9 Try.underlying5) rfl ?_
              refine hr1 rfl rfl rfl (ev_move rfl) rfl ?_
              refine hr1 rfl rfl rfl (ev_move rfl) rfl ?_
              refine hr1 rfl rfl rfl (ev_slHV hyB.rd hyB.cap rfl rfl Try.underlying27 Try.sizeOf5 (by omega) (by omega)) rfl ?_
              refine hr1 rfl rfl rfl (ev_toStrB (hyB.take (k := min (slotM g s).length (slotM h t).length) (by omega)).rd.bytes (by repeat first | exact .refl | exact .nil | exact .z | apply Pk.s | refine Ge.e ?_ | apply Ge.pick | apply Ge.drop) rfl Try.underlying27 Try.underlying9 Try.underlying5) rfl ?_
              first
                | refine hr1 rfl rfl rfl (ev_neqL rfl rfl) rfl ?_
                | refine hr1 rfl rfl rfl (ev_neqS rfl rfl) rfl ?_
              rw [h71]
              refine hr1 rfl rfl rfl (ev_move rfl) rfl ?_
              refine hr0 rfl rfl rfl rfl rfl ?_
              refine hr0 rfl rfl rfl rfl rfl ?_
              refine hr0 rfl rfl rfl rfl rfl ?_
              refine hr0 rfl rfl rfl rfl rfl ?_
              refine hr0u rfl rfl rfl rfl ?_
              refine hr0u rfl rfl rfl rfl ?_
              refine hr0u rfl rfl rfl rfl ?_
              refine hr0 rfl rfl rfl rfl rfl ?_
              refine hr1 rfl rfl rfl (ev_pick1 rfl rfl) rfl ?_
              refine hr rfl (ev_pick1 rfl rfl) rfl ?_
              refine hnil ?_
              refine y (ev_assign rfl) rfl ?_
              refine hnoP' (kthn (hK15 _ _ ?_))
              clear hK15
              refine cret ?_
              first
                | (exfalso; omega; done)
                | (refine kretv Try.results12 rfl (L1 := R) (by repeat first | exact .refl | exact .nil | exact .z | apply Pk.s | refine Ge.e ?_ | apply Ge.pick | apply Ge.drop) ?_
                   exact ⟨_, ⟨by first | rfl | simp_all, rfl⟩, by first | rfl | simp_all⟩)
end W
end Go.Proofs
