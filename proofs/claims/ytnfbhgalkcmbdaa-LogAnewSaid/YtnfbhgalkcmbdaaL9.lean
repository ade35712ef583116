/- A part of the proof: contracts and plain lemmas, each without conditions beyond those that it names. -/
import Derived.Test.YtnfbhgalkcmbdaaL8
set_option linter.unusedVariables false
set_option linter.unusedSimpArgs false
set_option linter.constructorNameAsVariable false
namespace Go.Proofs
open Go Go.Sl
namespace W
set_option linter.unusedVariables false
theorem lawLAnew [Env] {R : List Seg} {bv cv : Int} {lv : Value} {acts : List ActL} (hb : 0 ≤ bv ∧ bv ≤ 255) (hc : 0 ≤ cv ∧ cv ≤ 255) (hl : RdV R lv acts.length (actlsV acts)) (haa : ∀ a ∈ acts, a.ok R) :
    Con Try.prog 7 [.int .u8 bv, lv, .int .u8 cv] [] R (Is (.bool true) []) := by
  have hvl := hl.lenVal
  refine con_enter Try.func7 Try.ntmps7 rfl rfl ?_
  refine cseq ?_; intro K1 hK1
  refine creg ?_
  refine y (ev_assign rfl) rfl ?_
  refine ynil' (kthn (hK1 _ _ ?_))
  clear hK1
  refine cseq ?_; intro K2 hK2
  refine cseq ?_; intro K3 hK3
  refine creg ?_
  refine ycall (awake6) rfl Try.call25 (by repeat first | exact .nil | exact .z | apply Pk.s | apply Tk.cons) rfl ?_
  rintro v L' ⟨rfl, rfl⟩
  skip
  · skip
    refine y (ev_not rfl) rfl ?_
    refine ynil' (kthn (hK3 _ _ ?_))
    clear hK3
    refine ccond0 rfl ?_
    refine cskip' (kthn (hK2 _ _ ?_))
    clear hK2
    refine cseq ?_; intro K4 hK4
    refine creg ?_
    refine y (ev_move rfl) rfl ?_
    refine y (ev_rem rfl rfl (by decide)) rfl ?_
    refine y (ev_conv rfl Try.underlying5 Try.underlying3) rfl ?_
    refine y (ev_add rfl rfl) rfl ?_
    rw [nRing_eq hb.1 hb.2]; obtain ⟨n2, n20⟩ := nRing_le bv; obtain ⟨n, hn0⟩ : ∃ n, nRing bv = n := ⟨_, rfl⟩; rw [hn0] at n2 n20 ⊢
    have hG0 : LDev 2 n 0 1 (Dev.new (n + 2)) (n + 2) 0 1 0 0 [] := new_ldev (by omega) n2 ⟨by decide, by omega⟩ (by decide) ⟨by decide, by omega⟩ ⟨by decide, by omega⟩ (by unfold inRing; omega) (by unfold inRing; omega)
    refine y (ev_assign rfl) rfl ?_
    refine ynil' (kthn (hK4 _ _ ?_))
    clear hK4
    refine cseq ?_; intro K5 hK5
    refine creg ?_
    refine y (ev_move rfl) rfl ?_
    refine y (ev_add rfl rfl) rfl ?_
    rw [wr (by omega) (by omega), show (n : Int) + 2 = ((n + 2 : Nat) : Int) by omega]
    refine ycall (secNew (n := n + 2) (by omega)) rfl Try.call12 (by repeat first | exact .nil | exact .z | apply Pk.s | apply Tk.cons) rfl ?_
    rintro v L' ⟨q27, rfl, rfl⟩
    refine y (ev_assign rfl) rfl ?_
    refine ynil' (kthn (hK5 _ _ ?_))
    clear hK5
    refine cseq ?_; intro K6 hK6
    refine cseq ?_; intro K7 hK7
    refine creg ?_
    refine y (ev_move rfl) rfl ?_
    skip
    · skip
      refine y (ev_eqlPnil rfl rfl Try.underlying24) rfl ?_
      refine ynil' (kthn (hK7 _ _ ?_))
      clear hK7
      refine ccond rfl (fun h15 => ?_) (fun h15 => ?_)
      · (try simp only [decide_eq_true_eq, beq_iff_eq, beq_eq_false_iff_ne, decide_eq_decide, decide_eq_false_iff_not, Bool.not_eq_true', Bool.not_eq_false', Bool.not_eq_true, Bool.not_eq_false, Bool.not_not, ne_eq, Option.isNone_some, Option.isSome_some, Option.isNone_none, Option.isSome_none] at h15)
        refine cseq ?_; intro K8 hK8
        refine creg ?_
        refine y (ev_assign rfl) rfl ?_
        refine ynil' (kthn (hK8 _ _ ?_))
        clear hK8
        refine cret (kthr ?_)
        first
          | (exfalso; omega; done)
          | (refine kretv Try.results7 rfl (L1 := R) (by repeat first | exact .refl | exact .nil | exact .z | apply Pk.s | refine Ge.e ?_ | apply Ge.pick | apply Ge.drop) ?_
             exact ⟨_, ⟨by first | rfl | (exfalso; simp_all; done), rfl⟩, by first | rfl | (exfalso; simp_all; done)⟩)
      · (try simp only [decide_eq_true_eq, beq_iff_eq, beq_eq_false_iff_ne, decide_eq_decide, decide_eq_false_iff_not, Bool.not_eq_true', Bool.not_eq_false', Bool.not_eq_true, Bool.not_eq_false, Bool.not_not, ne_eq, Option.isNone_some, Option.isSome_some, Option.isNone_none, Option.isSome_none] at h15)
        refine cskip' (kthn (hK6 _ _ ?_))
        clear hK6
        refine cseq ?_; intro K9 hK9
        refine creg ?_
        refine y (ev_move rfl) rfl ?_
        refine y (ev_move rfl) rfl ?_
        refine ycall (gOpen hG0 (by decide) rfl) rfl Try.call26 (by repeat first | exact .nil | exact .z | apply Pk.s | apply Tk.cons) rfl ?_
        rintro v L' ⟨D1, p33, c33, s33, rfl, hG1, hf33, ok33, rfl⟩
        refine y (ev_move rfl) rfl ?_
        refine y (ev_extract rfl rfl) rfl ?_
        refine y (ev_extract rfl rfl) rfl ?_
        refine y (ev_assign rfl) rfl ?_
        refine y (ev_assign rfl) rfl ?_
        refine ynil' (kthn (hK9 _ _ ?_))
        clear hK9
        refine cseq ?_; intro K10 hK10
        refine cseq ?_; intro K11 hK11
        refine creg ?_
        refine y (ev_assign rfl) rfl ?_
        refine ynil' (kthn (hK11 _ _ ?_))
        clear hK11
        have hJ1 : ∀ x : Nat × LgM, ((LDev 2 n 0 1 x.2.D (n + 2) (x.1 + 1) x.2.h 1 x.2.le x.2.l ∧ itOk x.2.sl (logD 2 n 0 1 x.2.D x.2.h 1 x.2.le x.2.l) ∧ x.1 ≤ acts.length ∧ x.1 ≤ 60) ∧ (True)) → Sk 132 K10 ([(11, i64 x.1), (9, ptr p33), (8, dp q27), (7, i64 n), (1, lv), (2, .int .u8 cv)]) ([logG p33 c33 q27 x.2.sl (logD 2 n 0 1 x.2.D x.2.h 1 x.2.le x.2.l), dev q27 x.2.D] ++ R) := by
          rintro ⟨i, sl, D, h, le, l⟩ ⟨hI1, hX1⟩
          refine hK10 _ _ ?_
          obtain ⟨hG, ok, hi1, hi2⟩ := hI1; dsimp only at hG ok hi1 hi2 ⊢; have hlim := hG.lim; have hll := hG.ll; have hh1 := hG.h1; have hht := hG.ht
          skip
          refine cseq ?_; intro K12 hK12
          refine creg ?_
          refine y (ev_move rfl) rfl ?_
          refine ycall (bRecords ?ra27 ?rb27) rfl Try.call31 (by repeat first | exact .nil | exact .z | apply Pk.s | apply Tk.cons) rfl ?_
          case ra27 => first | assumption | exact ok
          case rb27 => (show l.length ≤ 512; omega)
          rintro v L' ⟨s81, rfl, ok81, rfl⟩
          refine y (ev_assign rfl) rfl ?_
          refine ynil' (kthn (hK12 _ _ ?_))
          clear hK12
          refine cseq ?_; intro K13 hK13
          refine creg ?_
          refine y (ev_move rfl) rfl ?_
          refine ycall (bHead) rfl Try.call29 (by repeat first | exact .nil | exact .z | apply Pk.s | apply Tk.cons) rfl ?_
          rintro v L' ⟨rfl, rfl⟩
          refine y (ev_move rfl) rfl ?_
          refine ycall (bTime) rfl Try.call33 (by repeat first | exact .nil | exact .z | apply Pk.s | apply Tk.cons) rfl ?_
          rintro v L' ⟨rfl, rfl⟩
          refine y (ev_assign rfl) rfl ?_
          refine y (ev_assign rfl) rfl ?_
          refine ynil' (kthn (hK13 _ _ ?_))
          clear hK13
          refine cseq ?_; intro K14 hK14
          refine cseq ?_; intro K15 hK15
          refine creg ?_
          refine y (ev_assign rfl) rfl ?_
          refine ynil' (kthn (hK15 _ _ ?_))
          clear hK15
          have hJ2 : ∀ x : Nat × Dev, ((LDev 2 n 0 1 x.2 (n + 2) (i + x.1) h x.1 le l ∧ 1 ≤ x.1 ∧ x.1 ≤ 8) ∧ (True)) → Sk 132 K14 ([(16, i64 x.1), (13, svVal s81 (l.map (·.1)).length), (14, i64 h), (15, i64 1), (8, dp q27), (7, i64 n), (2, .int .u8 cv)]) ([svSeg s81 9 (strsV (l.map (·.1))), dev q27 x.2] ++ R) := by
            rintro ⟨j, E⟩ ⟨hI2, hX2⟩
            refine hK14 _ _ ?_
            obtain ⟨hE, hj1, hj2⟩ := hI2; dsimp only at hE hj1 hj2 ⊢
            skip
            refine cseq ?_; intro K16 hK16
            refine creg ?_
            refine y (ev_move rfl) rfl ?_
            refine ycall (nSectors ?na37 ?nb37) rfl Try.call36 (by repeat first | exact .nil | exact .z | apply Pk.s | apply Tk.cons) rfl ?_
            case na37 => exact hE.up.ok
            case nb37 => exact hE.up.live
            rintro v L' ⟨s127, rfl, ok127, rfl⟩
            refine y (ev_lenSv rfl Try.underlying45 ok127) rfl ?_
            refine y (ev_move rfl) rfl ?_
            refine y (ev_add rfl rfl) rfl ?_
            rw [wr (by omega) (by omega)]
            refine y (ev_eql rfl rfl) rfl ?_
            rw [show (decide (((secsOf E E.l.length).length : Int) = (n : Int) + 2)) = true by rw [secsOf_len, hE.up.len]; simp]
            refine y (ev_assign rfl) rfl ?_
            refine ynil' (kthn (hK16 _ _ ?_))
            clear hK16
            refine cret ?_
            first
              | (exfalso; omega; done)
              | (refine kretv Try.results7 rfl (L1 := R) (by repeat first | exact .refl | exact .nil | exact .z | apply Pk.s | refine Ge.e ?_ | apply Ge.pick | apply Ge.drop) ?_
                 exact ⟨_, ⟨by first | rfl | (exfalso; simp_all; done), rfl⟩, by first | rfl | (exfalso; simp_all; done)⟩)
          clear hK14
          refine cblock ?_
          refine cloop (A := Nat × Dev) (fun x => [(16, i64 x.1), (13, svVal s81 (l.map (·.1)).length), (14, i64 h), (15, i64 1), (8, dp q27), (7, i64 n), (2, .int .u8 cv)]) (fun x => [svSeg s81 9 (strsV (l.map (·.1))), dev q27 x.2] ++ R) (fun x => LDev 2 n 0 1 x.2 (n + 2) (i + x.1) h x.1 le l ∧ 1 ≤ x.1 ∧ x.1 ≤ 8) (fun x => 8 - x.1) ((1, D)) ?_ (by repeat first | exact sub_nil | refine sub_cons rfl ?_ | refine sub_cons' rfl (by simp) ?_) (by repeat first | exact .refl | exact .nil | exact .z | apply Pk.s | refine Ge.e ?_ | apply Ge.pick | apply Ge.drop) ?_
          · exact ⟨hG, Nat.le_refl _, by show 1 ≤ 8; decide⟩
          rintro ⟨j, E⟩ hI2 KL2 hL2
          have hI2o := hI2
          obtain ⟨hE, hj1, hj2⟩ := hI2; dsimp only at hE hj1 hj2 ⊢
          refine cseq ?_; intro K17 hK17
          refine cseq ?_; intro K18 hK18
          refine creg ?_
          refine y (ev_move rfl) rfl ?_
          refine y (ev_move rfl) rfl ?_
          refine y (ev_rem rfl rfl (by decide)) rfl ?_
          rw [show cv.tmod 8 = cv % 8 from Int.tmod_eq_emod_of_nonneg hc.1]
          refine y (ev_conv rfl Try.underlying5 Try.underlying3) rfl ?_
          rw [wr (by omega) (by omega)]
          refine y (ev_leq rfl rfl) rfl ?_
          refine ynil' (kthn (hK18 _ _ ?_))
          clear hK18
          refine ccond rfl (fun h48 => ?_) (fun h48 => ?_)
          · (try simp only [decide_eq_true_eq, beq_iff_eq, beq_eq_false_iff_ne, decide_eq_decide, decide_eq_false_iff_not, Bool.not_eq_true', Bool.not_eq_false', Bool.not_eq_true, Bool.not_eq_false, Bool.not_not, ne_eq, Option.isNone_some, Option.isSome_some, Option.isNone_none, Option.isSome_none] at h48)
            refine cskip' (kthn (hK17 _ _ ?_))
            clear hK17
            refine cseq ?_; intro K19 hK19
            refine cblock ?_
            refine cseq ?_; intro K20 hK20
            refine creg ?_
            refine y (ev_move rfl) rfl ?_
            refine y (ev_move rfl) rfl ?_
            refine ycall (gOpen hE (by omega) rfl) rfl Try.call26 (by repeat first | exact .nil | exact .z | apply Pk.s | apply Tk.cons) rfl ?_
            rintro v L' ⟨D2, p96, c96, s96, rfl, hE2, hf96, ok96, rfl⟩
            refine y (ev_move rfl) rfl ?_
            refine y (ev_extract rfl rfl) rfl ?_
            refine y (ev_extract rfl rfl) rfl ?_
            refine y (ev_assign rfl) rfl ?_
            refine y (ev_assign rfl) rfl ?_
            refine ynil' (kthn (hK20 _ _ ?_))
            clear hK20
            refine cseq ?_; intro K21 hK21
            refine creg ?_
            refine y (ev_move rfl) rfl ?_
            skip
            · skip
              refine y (ev_eqlPnil rfl rfl Try.underlying46) rfl ?_
              refine y (ev_move rfl) rfl ?_
              refine yg1 rfl rfl ?_
              refine y (ev_move rfl) rfl ?_
              refine yg1 rfl rfl ?_
              refine y (ev_neq rfl rfl) rfl ?_
              refine y (ev_pick0 rfl rfl) rfl ?_
              refine y (ev_move rfl) rfl ?_
              refine yg1 rfl rfl ?_
              refine y (ev_move rfl) rfl ?_
              refine yg1 rfl rfl ?_
              refine ycall (bRecords ?ra65 ?rb65) rfl Try.call31 (by repeat first | exact .nil | exact .z | apply Pk.s | apply Tk.cons) rfl ?_
              case ra65 => first | assumption | exact ok
              case rb65 => (show l.length ≤ 512; omega)
              rintro v L' ⟨s107, rfl, ok107, rfl⟩
              refine yg1 rfl rfl ?_
              refine y (ev_move rfl) rfl ?_
              refine yg1 rfl rfl ?_
              refine ycall (nSame (u1 := l.map (·.1)) (u2 := l.map (·.1)) ?ia67 ?ib67 ?ic67) rfl Try.call30 (by repeat first | exact .nil | exact .z | apply Pk.s | apply Tk.cons) rfl ?_
              case ia67 => exact rdV_sv (by repeat first | exact .z | apply In.s) ok107
              case ib67 => exact rdV_sv (by repeat first | exact .z | apply In.s) ok81
              case ic67 => (simp; omega)
              rintro v L' ⟨rfl, rfl⟩
              rw [show (decide (l.map (·.1) = l.map (·.1))) = true by simp]
              refine yg1 rfl rfl ?_
              refine y (ev_not rfl) rfl ?_
              refine y (ev_pick0 rfl rfl) rfl ?_
              refine y (ev_move rfl) rfl ?_
              refine yg1 rfl rfl ?_
              refine y (ev_move rfl) rfl ?_
              refine yg1 rfl rfl ?_
              refine ycall (bHead) rfl Try.call29 (by repeat first | exact .nil | exact .z | apply Pk.s | apply Tk.cons) rfl ?_
              rintro v L' ⟨rfl, rfl⟩
              refine yg1 rfl rfl ?_
              refine y (ev_move rfl) rfl ?_
              refine yg1 rfl rfl ?_
              refine y (ev_neq rfl rfl) rfl ?_
              rw [show (!decide ((logD 2 n 0 1 D2 h ((j : Int) + 1) le l).head = h)) = false by simp]
              refine y (ev_pick0 rfl rfl) rfl ?_
              refine y (ev_move rfl) rfl ?_
              refine yg1 rfl rfl ?_
              refine y (ev_move rfl) rfl ?_
              refine yg1 rfl rfl ?_
              refine ycall (bTime) rfl Try.call33 (by repeat first | exact .nil | exact .z | apply Pk.s | apply Tk.cons) rfl ?_
              rintro v L' ⟨rfl, rfl⟩
              refine yg1 rfl rfl ?_
              refine y (ev_move rfl) rfl ?_
              refine yg1 rfl rfl ?_
              refine y (ev_move rfl) rfl ?_
              refine yg1 rfl rfl ?_
              refine y (ev_add rfl rfl) rfl ?_
              rw [wr (by omega) (by omega)]
              refine yg1 rfl rfl ?_
              refine y (ev_neq rfl rfl) rfl ?_
              rw [show (!decide ((logD 2 n 0 1 D2 h ((j : Int) + 1) le l).time = 1 + (j : Int))) = false by simp; omega]
              refine y (ev_pick0 rfl rfl) rfl ?_
              refine ynil' (kthn (hK21 _ _ ?_))
              clear hK21
              refine ccond0 rfl ?_
              refine cskip' (kbn (kthn (hK19 _ _ ?_)))
              clear hK19
              refine creg ?_
              refine y (ev_move rfl) rfl ?_
              refine y (ev_add rfl rfl) rfl ?_
              rw [show IntKind.i64.wrap ((j:Int) + 1) = ((j+1 : Nat) : Int) by rw [wr (by omega) (by omega)]; rfl]
              refine y (ev_assign rfl) rfl ?_
              refine ynil' (kthn ?_)
              exact hL2 ((j + 1, D2)) (⟨by rw [show i + (j + 1) = i + j + 1 by omega]; exact hE2, by dsimp only; omega, by dsimp only; omega⟩) (by dsimp only; omega) _ _ (by repeat first | exact sub_nil | refine sub_cons rfl ?_ | refine sub_cons' rfl (by simp) ?_) (by repeat first | exact .refl | exact .nil | exact .z | apply Pk.s | refine Ge.e ?_ | apply Ge.pick | apply Ge.drop)
          · (try simp only [decide_eq_true_eq, beq_iff_eq, beq_eq_false_iff_ne, decide_eq_decide, decide_eq_false_iff_not, Bool.not_eq_true', Bool.not_eq_false', Bool.not_eq_true, Bool.not_eq_false, Bool.not_not, ne_eq, Option.isNone_some, Option.isSome_some, Option.isNone_none, Option.isSome_none] at h48)
            refine cexit (kthx (kthx (kbx (kthn ?_))))
            exact ksub (by repeat first | exact sub_nil | refine sub_cons rfl ?_ | refine sub_cons' rfl (by simp) ?_) (by repeat first | exact .refl | exact .nil | exact .z | apply Pk.s | refine Ge.e ?_ | apply Ge.pick | apply Ge.drop) (hJ2 ⟨j, E⟩ ⟨hI2o, by first | trivial | omega⟩)
        clear hK10
        refine cblock ?_
        refine cloop (A := Nat × LgM) (fun x => [(11, i64 x.1), (9, ptr p33), (8, dp q27), (7, i64 n), (1, lv), (2, .int .u8 cv)]) (fun x => [logG p33 c33 q27 x.2.sl (logD 2 n 0 1 x.2.D x.2.h 1 x.2.le x.2.l), dev q27 x.2.D] ++ R) (fun x => LDev 2 n 0 1 x.2.D (n + 2) (x.1 + 1) x.2.h 1 x.2.le x.2.l ∧ itOk x.2.sl (logD 2 n 0 1 x.2.D x.2.h 1 x.2.le x.2.l) ∧ x.1 ≤ acts.length ∧ x.1 ≤ 60) (fun x => 60 - x.1) ((0, ⟨s33, D1, 1, 0, []⟩)) ?_ (by repeat first | exact sub_nil | refine sub_cons rfl ?_ | refine sub_cons' rfl (by simp) ?_) (by repeat first | exact .refl | exact .nil | exact .z | apply Pk.s | refine Ge.e ?_ | apply Ge.pick | apply Ge.drop) ?_
        · exact ⟨hG1, ok33, Nat.zero_le _, Nat.zero_le _⟩
        rintro ⟨i, sl, D, h, le, l⟩ hI1 KL1 hL1
        have hI1o := hI1
        obtain ⟨hG, ok, hi1, hi2⟩ := hI1; dsimp only at hG ok hi1 hi2 ⊢; have hlim := hG.lim; have hll := hG.ll; have hh1 := hG.h1; have hht := hG.ht
        refine cseq ?_; intro K22 hK22
        refine cseq ?_; intro K23 hK23
        refine creg ?_
        refine y (ev_move rfl) rfl ?_
        refine y (ev_move rfl) rfl ?_
        first
          | refine y (ev_len rfl Try.underlying55) rfl ?_
          | refine y (ev_lenSv rfl Try.underlying55 (by assumption)) rfl ?_
          | refine y (ev_lenV rfl Try.underlying55 (RdV.lenVal (by assumption))) rfl ?_
          | refine y (ev_lenV rfl Try.underlying55 (RdB.lenVal (by assumption))) rfl ?_
        refine y (ev_lss rfl rfl) rfl ?_
        refine y (ev_move rfl) rfl ?_
        refine ysplit 40 rfl (fun h92 => ?_) (fun h92 => ?_)
        · (try simp only [decide_eq_true_eq, beq_iff_eq, beq_eq_false_iff_ne, decide_eq_decide, decide_eq_false_iff_not, Bool.not_eq_true', Bool.not_eq_false', Bool.not_eq_true, Bool.not_eq_false, Bool.not_not, ne_eq, Option.isNone_some, Option.isSome_some, Option.isNone_none, Option.isSome_none] at h92)
          refine yg1 rfl rfl ?_
          refine y (ev_move rfl) rfl ?_
          refine yg1 rfl rfl ?_
          refine y (ev_lss rfl rfl) rfl ?_
          refine y (ev_pick1 rfl rfl) rfl ?_
          refine ynil' (kthn (hK23 _ _ ?_))
          clear hK23
          refine ccond rfl (fun h96 => ?_) (fun h96 => ?_)
          · (try simp only [decide_eq_true_eq, beq_iff_eq, beq_eq_false_iff_ne, decide_eq_decide, decide_eq_false_iff_not, Bool.not_eq_true', Bool.not_eq_false', Bool.not_eq_true, Bool.not_eq_false, Bool.not_not, ne_eq, Option.isNone_some, Option.isSome_some, Option.isNone_none, Option.isSome_none] at h96)
            refine cskip' (kthn (hK22 _ _ ?_))
            clear hK22
            refine cseq ?_; intro K24 hK24
            have hJr10 : ∀ x : LgM, (LDev 2 n 0 1 x.D (n + 2) (i + 2) x.h 1 x.le x.l ∧ itOk x.sl (logD 2 n 0 1 x.D x.h 1 x.le x.l)) → Sk 132 K24 ([(11, i64 i), (9, ptr p33), (8, dp q27), (7, i64 n), (1, lv), (2, .int .u8 cv)]) ([logG p33 c33 q27 x.sl (logD 2 n 0 1 x.D x.h 1 x.le x.l), dev q27 x.D] ++ R) := by
              rintro ⟨sl, D, h, le, l⟩ hIr10
              refine hK24 _ _ ?_
              obtain ⟨hG, ok⟩ := hIr10; dsimp only at hG ok ⊢; have hi3 : i < 60 ∧ i < acts.length := by omega
              refine creg ?_
              refine y (ev_move rfl) rfl ?_
              refine y (ev_add rfl rfl) rfl ?_
              rw [show IntKind.i64.wrap ((i:Int) + 1) = ((i+1 : Nat) : Int) by rw [wr (by omega) (by omega)]; rfl]
              refine y (ev_assign rfl) rfl ?_
              refine ynil' (kthn ?_)
              exact hL1 ((i + 1, ⟨sl, D, h, le, l⟩)) (⟨hG, ok, by dsimp only; omega, by dsimp only; omega⟩) (by dsimp only; omega) _ _ (by repeat first | exact sub_nil | refine sub_cons rfl ?_ | refine sub_cons' rfl (by simp) ?_) (by repeat first | exact .refl | exact .nil | exact .z | apply Pk.s | refine Ge.e ?_ | apply Ge.pick | apply Ge.drop)
            clear hK24
            refine cblock ?_
            refine cseq ?_; intro K25 hK25
            refine creg ?_
            obtain ⟨a, hka⟩ : ∃ a, acts[i]? = some a := ⟨_, List.getElem?_eq_getElem (by omega)⟩
            have hact := haa a (List.mem_of_getElem? hka)
            refine y (ev_move rfl) rfl ?_
            refine y (ev_move rfl) rfl ?_
            refine y (ev_ixV hl rfl rfl Try.underlying55 Try.sizeOf58 (by omega) (by omega)) rfl ?_
            refine y (ev_loadNV (us := a.cells) (i * 4) hl (by repeat first | exact .refl | exact .nil | exact .z | apply Pk.s | refine Ge.e ?_ | apply Ge.pick | apply Ge.drop) rfl Try.isAgg58 Try.sizeOf58 (by simp) (actlsV_get hka) rfl) rfl ?_
            refine ya (ac_alloc Try.zeroValue58 rfl) rfl ?_
            rintro v L' ⟨b12, rfl, rfl⟩
            refine ya0 (ac_storeAll rfl rfl hact.one Try.sizeOf58 (by repeat first | exact .z | apply Rp.s) (by rfl) (by rfl)) ?_
            rintro v L' ⟨rfl, rfl⟩
            refine ynil' (kthn (hK25 _ _ ?_))
            clear hK25
            refine cseq ?_; intro K26 hK26
            refine cseq ?_; intro K27 hK27
            refine creg ?_
            refine y (ev_move rfl) rfl ?_
            skip
            · skip
              refine y (ev_eqlPnil rfl rfl Try.underlying46) rfl ?_
              refine y (ev_move rfl) rfl ?_
              refine yg1 rfl rfl ?_
              refine y (ev_loadN (u := a.cells) rfl Try.isAgg58 Try.sizeOf58 (by repeat first | exact .z | apply In.s) rfl rfl) rfl ?_
              refine yg1 rfl rfl ?_
              refine ycall (nLarge (x := a) ?lx110) rfl Try.call34 (by repeat first | exact .nil | exact .z | apply Pk.s | apply Tk.cons) rfl ?_
              case lx110 => exact hact.mono (by repeat first | exact .refl | exact .nil | exact .z | apply Pk.s | refine Ge.e ?_ | apply Ge.pick | apply Ge.drop)
              rintro v L' ⟨big54, rfl, hbig54, rfl⟩
              refine y (ev_pick0 rfl rfl) rfl ?_
              refine ynil' (kthn (hK27 _ _ ?_))
              clear hK27
              refine ccond rfl (fun h112 => ?_) (fun h112 => ?_)
              · (try simp only [decide_eq_true_eq, beq_iff_eq, beq_eq_false_iff_ne, decide_eq_decide, decide_eq_false_iff_not, Bool.not_eq_true', Bool.not_eq_false', Bool.not_eq_true, Bool.not_eq_false, Bool.not_not, ne_eq, Option.isNone_some, Option.isSome_some, Option.isNone_none, Option.isSome_none] at h112)
                refine cseq ?_; intro K28 hK28
                refine creg ?_
                refine y (ev_move rfl) rfl ?_
                refine y (ev_neqPnil rfl rfl Try.underlying46) rfl ?_
                refine y (ev_assign rfl) rfl ?_
                refine ynil' (kthn (hK28 _ _ ?_))
                clear hK28
                refine cret (kthr (kbr (kthr (kthr (kbr (kthr ?_))))))
                first
                  | (exfalso; omega; done)
                  | (refine kretv Try.results7 rfl (L1 := R) (by repeat first | exact .refl | exact .nil | exact .z | apply Pk.s | refine Ge.e ?_ | apply Ge.pick | apply Ge.drop) ?_
                     exact ⟨_, ⟨by first | rfl | (exfalso; simp_all; done), rfl⟩, by first | rfl | (exfalso; simp_all; done)⟩)
              · (try simp only [decide_eq_true_eq, beq_iff_eq, beq_eq_false_iff_ne, decide_eq_decide, decide_eq_false_iff_not, Bool.not_eq_true', Bool.not_eq_false', Bool.not_eq_true, Bool.not_eq_false, Bool.not_not, ne_eq, Option.isNone_some, Option.isSome_some, Option.isNone_none, Option.isSome_none] at h112)
                refine cskip' (kthn (hK26 _ _ ?_))
                clear hK26
                refine cseq ?_; intro K29 hK29
                refine creg ?_
                refine y (ev_fieldAddr 0 rfl Try.underlying58 rfl Try.sizeOf3) rfl ?_
                refine y (ev_load rfl Try.isAgg3 (by repeat first | exact .z | apply In.s) rfl) rfl ?_
                refine ynil' (kthn (hK29 _ _ ?_))
                clear hK29
                refine cblock ?_
                refine cseq ?_; intro K30 hK30
                refine creg ?_
                refine y (ev_eql rfl rfl) rfl ?_
                refine y (ev_assign rfl) rfl ?_
                refine ynil' (kthn (hK30 _ _ ?_))
                clear hK30
                refine ccond rfl (fun h120 => ?_) (fun h120 => ?_)
                · (try simp only [decide_eq_true_eq, beq_iff_eq, beq_eq_false_iff_ne, decide_eq_decide, decide_eq_false_iff_not, Bool.not_eq_true', Bool.not_eq_false', Bool.not_eq_true, Bool.not_eq_false, Bool.not_not, ne_eq, Option.isNone_some, Option.isSome_some, Option.isNone_none, Option.isSome_none] at h120)
                  refine creg ?_
                  refine y (ev_move rfl) rfl ?_
                  refine y (ev_fieldAddr 2 rfl Try.underlying58 rfl Try.sizeOf9) rfl ?_
                  refine y (ev_load rfl Try.isAgg9 (by repeat first | exact .z | apply In.s) rfl) rfl ?_
                  refine ycall (gAppend (s := a.s) (N := n + 2) (k := i + 1) ?ag124 ?ak124 ?as124) rfl Try.call27 (by repeat first | exact .nil | exact .z | apply Pk.s | apply Tk.cons) rfl ?_
                  case ag124 => exact hG
                  case ak124 => omega
                  case as124 => exact ok
                  rintro v L' ⟨s65, D65, l65, rfl, hG65, hl65, hf65, hz65, ok65, rfl⟩
                  have hj := And.intro hG65 ok65
                  refine ynil' (kbn (kbn (kthn ?_)))
                  exact ksub (by repeat first | exact sub_nil | refine sub_cons rfl ?_ | refine sub_cons' rfl (by simp) ?_) (by repeat first | exact .refl | exact .nil | exact .z | apply Pk.s | refine Ge.e ?_ | apply Ge.pick | apply Ge.drop) (hJr10 ⟨_, _, _, _, _⟩ hj)
                · (try simp only [decide_eq_true_eq, beq_iff_eq, beq_eq_false_iff_ne, decide_eq_decide, decide_eq_false_iff_not, Bool.not_eq_true', Bool.not_eq_false', Bool.not_eq_true, Bool.not_eq_false, Bool.not_not, ne_eq, Option.isNone_some, Option.isSome_some, Option.isNone_none, Option.isSome_none] at h120)
                  refine cseq ?_; intro K31 hK31
                  refine creg ?_
                  refine y (ev_eql rfl rfl) rfl ?_
                  refine y (ev_assign rfl) rfl ?_
                  refine ynil' (kthn (hK31 _ _ ?_))
                  clear hK31
                  refine ccond rfl (fun h127 => ?_) (fun h127 => ?_)
                  · (try simp only [decide_eq_true_eq, beq_iff_eq, beq_eq_false_iff_ne, decide_eq_decide, decide_eq_false_iff_not, Bool.not_eq_true', Bool.not_eq_false', Bool.not_eq_true, Bool.not_eq_false, Bool.not_not, ne_eq, Option.isNone_some, Option.isSome_some, Option.isNone_none, Option.isSome_none] at h127)
                    refine creg ?_
                    refine y (ev_move rfl) rfl ?_
                    refine ycall (gSync (N := n + 2) (k := i + 1) ?ag129 ?as129) rfl Try.call35 (by repeat first | exact .nil | exact .z | apply Pk.s | apply Tk.cons) rfl ?_
                    case ag129 => exact hG
                    case as129 => exact ok
                    rintro v L' ⟨D69, rfl, hG69, hes69, hf69, ok69, rfl⟩
                    have hj := And.intro hG69.up1 ok69
                    refine ynil' (kbn (kbn (kthn ?_)))
                    exact ksub (by repeat first | exact sub_nil | refine sub_cons rfl ?_ | refine sub_cons' rfl (by simp) ?_) (by repeat first | exact .refl | exact .nil | exact .z | apply Pk.s | refine Ge.e ?_ | apply Ge.pick | apply Ge.drop) (hJr10 ⟨_, _, _, _, _⟩ hj)
                  · (try simp only [decide_eq_true_eq, beq_iff_eq, beq_eq_false_iff_ne, decide_eq_decide, decide_eq_false_iff_not, Bool.not_eq_true', Bool.not_eq_false', Bool.not_eq_true, Bool.not_eq_false, Bool.not_not, ne_eq, Option.isNone_some, Option.isSome_some, Option.isNone_none, Option.isSome_none] at h127)
                    refine cseq ?_; intro K32 hK32
                    refine creg ?_
                    refine y (ev_eql rfl rfl) rfl ?_
                    refine y (ev_assign rfl) rfl ?_
                    refine ynil' (kthn (hK32 _ _ ?_))
                    clear hK32
                    refine ccond rfl (fun h132 => ?_) (fun h132 => ?_)
                    · (try simp only [decide_eq_true_eq, beq_iff_eq, beq_eq_false_iff_ne, decide_eq_decide, decide_eq_false_iff_not, Bool.not_eq_true', Bool.not_eq_false', Bool.not_eq_true, Bool.not_eq_false, Bool.not_not, ne_eq, Option.isNone_some, Option.isSome_some, Option.isNone_none, Option.isSome_none] at h132)
                      refine cdraw 7 [(0, true), (1, true), (3, true), (4, true), (5, true), (2, false), (6, true)] ([sc b12 a.cells 58] ++ R) Try.mixed (by kernel_rfl) (by repeat first | exact .refl | exact .nil | exact .z | apply Pk.s | refine Ge.e ?_ | apply Ge.pick | apply Ge.drop) ?_
                      refine hr rfl (ev_move rfl) rfl ?_
                      refine hr rfl (ev_move rfl) rfl ?_
                      refine hr rfl (ev_fieldAddr 1 rfl Try.underlying58 rfl Try.sizeOf3) rfl ?_
                      refine hr rfl (ev_load rfl Try.isAgg3 (by repeat first | exact .z | apply In.s) rfl) rfl ?_
                      refine hr rfl (ev_and rfl rfl) rfl ?_
                      obtain ⟨hz0, hz1⟩ := and31 a.n; generalize bAnd .i64 a.n 31 = z at *
                      refine hcall rfl (bHead) rfl Try.call29 (by repeat first | exact .nil | exact .z | apply Pk.s | apply Tk.cons) rfl ?_
                      rintro v L' ⟨rfl, rfl⟩; refine ⟨(by repeat first | exact .refl | exact .nil | exact .z | apply Pk.s | refine Ge.e ?_ | apply Ge.pick | apply Ge.drop), ?_⟩
                      refine hr rfl (ev_add rfl rfl) rfl ?_
                      rw [show (logD 2 n 0 1 D h 1 le l).head = h from rfl, wr (by omega) (by omega)]
                      refine hnil ?_
                      refine ycall (gTrim (m := h + z) (N := n + 2) (k := i + 1) ?ag140 ?ak140 ?as140) rfl Try.call28 (by repeat first | exact .nil | exact .z | apply Pk.s | apply Tk.cons) rfl ?_
                      case ag140 => exact hG
                      case ak140 => omega
                      case as140 => exact ok
                      rintro v L' ⟨s79, D79, h79, e79, l79, rfl, hG79, hh79, hl79, hf79, ok79, rfl⟩
                      have hj := And.intro hG79 ok79
                      refine hnoP' (kbn (kbn (kthn ?_)))
                      exact ksub (by repeat first | exact sub_nil | refine sub_cons rfl ?_ | refine sub_cons' rfl (by simp) ?_) (by repeat first | exact .refl | exact .nil | exact .z | apply Pk.s | refine Ge.e ?_ | apply Ge.pick | apply Ge.drop) (hJr10 ⟨_, _, _, _, _⟩ hj)
                    · (try simp only [decide_eq_true_eq, beq_iff_eq, beq_eq_false_iff_ne, decide_eq_decide, decide_eq_false_iff_not, Bool.not_eq_true', Bool.not_eq_false', Bool.not_eq_true, Bool.not_eq_false, Bool.not_not, ne_eq, Option.isNone_some, Option.isSome_some, Option.isNone_none, Option.isSome_none] at h132)
                      have hj := And.intro hG.up1 ok
                      refine cskip' (kbn (kbn (kthn ?_)))
                      exact ksub (by repeat first | exact sub_nil | refine sub_cons rfl ?_ | refine sub_cons' rfl (by simp) ?_) (by repeat first | exact .refl | exact .nil | exact .z | apply Pk.s | refine Ge.e ?_ | apply Ge.pick | apply Ge.drop) (hJr10 ⟨_, _, _, _, _⟩ hj)
          · (try simp only [decide_eq_true_eq, beq_iff_eq, beq_eq_false_iff_ne, decide_eq_decide, decide_eq_false_iff_not, Bool.not_eq_true', Bool.not_eq_false', Bool.not_eq_true, Bool.not_eq_false, Bool.not_not, ne_eq, Option.isNone_some, Option.isSome_some, Option.isNone_none, Option.isSome_none] at h96)
            refine cexit (kthx (kthx (kbx (kthn ?_))))
            exact ksub (by repeat first | exact sub_nil | refine sub_cons rfl ?_ | refine sub_cons' rfl (by simp) ?_) (by repeat first | exact .refl | exact .nil | exact .z | apply Pk.s | refine Ge.e ?_ | apply Ge.pick | apply Ge.drop) (hJ1 ⟨i, sl, D, h, le, l⟩ ⟨hI1o, by first | trivial | omega⟩)
        · (try simp only [decide_eq_true_eq, beq_iff_eq, beq_eq_false_iff_ne, decide_eq_decide, decide_eq_false_iff_not, Bool.not_eq_true', Bool.not_eq_false', Bool.not_eq_true, Bool.not_eq_false, Bool.not_not, ne_eq, Option.isNone_some, Option.isSome_some, Option.isNone_none, Option.isSome_none] at h92)
          refine yg0 rfl rfl rfl rfl ?_
          refine yg0 rfl rfl rfl rfl ?_
          refine y (ev_pick0 rfl rfl) rfl ?_
          refine ynil' (kthn (hK23 _ _ ?_))
          clear hK23
          refine ccond0 rfl ?_
          refine cexit (kthx (kthx (kbx (kthn ?_))))
          exact ksub (by repeat first | exact sub_nil | refine sub_cons rfl ?_ | refine sub_cons' rfl (by simp) ?_) (by repeat first | exact .refl | exact .nil | exact .z | apply Pk.s | refine Ge.e ?_ | apply Ge.pick | apply Ge.drop) (hJ1 ⟨i, sl, D, h, le, l⟩ ⟨hI1o, by first | trivial | omega⟩)
end W
end Go.Proofs
