/- A part of the proof: contracts and plain lemmas, each without conditions beyond those that it names. -/
import Derived.Test.YtnedokioglfipaaS6
import Derived.Test.YtnedokioglfipaaSecC
set_option linter.unusedVariables false
set_option linter.unusedSimpArgs false
set_option linter.constructorNameAsVariable false
namespace Go.Proofs
open Go Go.Sl
namespace W
set_option linter.unusedVariables false
theorem secNewI [Env] {R : List Seg} {n : Int} (hn : 0 ≤ n ∧ n ≤ 512) : Con Try.prog 15 [i64 n] [] R (fun v L' => ∃ q, v = dp q ∧ L' = [dev q (Dev.new n.toNat)]) := by
  have h := secNew (R := R) (n := n.toNat) (by omega)
  rw [show ((n.toNat : Nat) : Int) = n by omega] at h
  exact h

theorem lawAlone [Env] {R : List Seg} {n i : Int} {lv bv mv : Value} {acts more : List ActM} {bs : Bytes} (hl : RdV R lv acts.length (actsV acts)) (haa : ∀ a ∈ acts, a.ok R)
    (hb : RdB R bv bs) (hm : RdV R mv more.length (actsV more)) (hma : ∀ a ∈ more, a.ok R) :
    Con Try.prog 6 [i64 n, lv, i64 i, bv, mv] [] R (Is (.bool true) []) := by
  refine con_enter Try.func6 Try.ntmps6 rfl rfl ?_
  refine cseq ?_; intro K1 hK1
  refine creg ?_
  refine y (ev_assign rfl) rfl ?_
  refine ynil' (kthn (hK1 _ _ ?_))
  clear hK1
  refine cseq ?_; intro K2 hK2
  refine cseq ?_; intro K3 hK3
  refine creg ?_
  refine ycall (awake) rfl Try.call14 (by repeat first | exact .nil | exact .z | apply Pk.s | apply Tk.cons) rfl ?_
  rintro v L' ⟨rfl, rfl⟩
  refine y (ev_not rfl) rfl ?_
  refine ynil' (kthn (hK3 _ _ ?_))
  clear hK3
  refine ccond rfl (fun h4 => ?_) (fun h4 => ?_)
  · (try simp only [decide_eq_true_eq, beq_iff_eq, beq_eq_false_iff_ne, decide_eq_decide, decide_eq_false_iff_not, Bool.not_eq_true', Bool.not_eq_false', Bool.not_eq_true, Bool.not_eq_false, Bool.not_not, ne_eq, Option.isNone_some, Option.isSome_some, Option.isNone_none, Option.isSome_none] at h4)
    refine cseq ?_; intro K4 hK4
    refine creg ?_
    refine y (ev_assign rfl) rfl ?_
    refine ynil' (kthn (hK4 _ _ ?_))
    clear hK4
    refine cret (kthr ?_)
    first
      | (exfalso; omega; done)
      | (refine kretv Try.results6 rfl (L1 := R) (by repeat first | exact .refl | exact .nil | exact .z | apply Pk.s | refine Ge.e ?_ | apply Ge.pick | apply Ge.drop) ?_
         exact ⟨_, ⟨by first | rfl | (exfalso; omega; done) | (exfalso; simp_all; done) | (simp; omega) | simp_all, rfl⟩, by first | rfl | (exfalso; omega; done) | (exfalso; simp_all; done) | (simp; omega) | simp_all⟩)
  · (try simp only [decide_eq_true_eq, beq_iff_eq, beq_eq_false_iff_ne, decide_eq_decide, decide_eq_false_iff_not, Bool.not_eq_true', Bool.not_eq_false', Bool.not_eq_true, Bool.not_eq_false, Bool.not_not, ne_eq, Option.isNone_some, Option.isSome_some, Option.isNone_none, Option.isSome_none] at h4)
    refine cskip' (kthn (hK2 _ _ ?_))
    clear hK2
    refine cseq ?_; intro K5 hK5
    refine creg ?_
    refine y (ev_move rfl) rfl ?_
    by_cases hn : 0 ≤ n ∧ n ≤ 512
    · skip
      first | (refine ycall (secNewI hn) rfl Try.call15 (by repeat first | exact .nil | exact .z | apply Pk.s | apply Tk.cons) rfl ?_; rintro v L' ⟨q, rfl, rfl⟩) | (refine ycall (secNewNil (by omega)) rfl Try.call15 (by repeat first | exact .nil | exact .z | apply Pk.s | apply Tk.cons) rfl ?_; rintro v L' ⟨rfl, rfl⟩)
      refine y (ev_assign rfl) rfl ?_
      refine ynil' (kthn (hK5 _ _ ?_))
      clear hK5
      refine cseq ?_; intro K6 hK6
      refine cseq ?_; intro K7 hK7
      refine creg ?_
      refine y (ev_move rfl) rfl ?_
      refine y (ev_eqlPnil rfl rfl Try.underlying24) rfl ?_
      refine ynil' (kthn (hK7 _ _ ?_))
      clear hK7
      refine ccond0 rfl ?_
      refine cskip' (kthn (hK6 _ _ ?_))
      clear hK6
      refine cseq ?_; intro K8 hK8
      refine cseq ?_; intro K9 hK9
      refine creg ?_
      refine y (ev_assign rfl) rfl ?_
      refine ynil' (kthn (hK9 _ _ ?_))
      clear hK9
      have hJ1 : ∀ x : Nat × Dev, ((x.2.ok ∧ x.2.l.length = n.toNat ∧ x.1 ≤ acts.length ∧ x.1 ≤ 80) ∧ (True)) → Sk 154 K8 ([(12, i64 x.1), (11, dp q), (1, lv), (0, i64 n), (2, i64 i), (3, bv), (4, mv)]) ([dev q x.2] ++ R) := by
        rintro ⟨k, D⟩ ⟨hI1, hX1⟩
        refine hK8 _ _ ?_
        obtain ⟨hD, hn1, hk1, hk2⟩ := hI1; dsimp only at hD hn1 hk1 hk2 ⊢
        refine cseq ?_; intro K10 hK10
        refine creg ?_
        refine y (ev_move rfl) rfl ?_
        refine ycall (secCrash (ks := []) ?ok13 ?ks13) rfl Try.call25 (by repeat first | exact .nil | exact .z | apply Pk.s | apply Tk.cons) rfl ?_
        case ok13 => first | exact hU.ok | exact hD
        case ks13 => exact rdV_nil
        rintro v L' ⟨rfl, rfl⟩
        have hU := crash_up hD []
        rw [hn1] at hU
        generalize D.crash [] = D1 at hU ⊢
        refine ynil' (kthn (hK10 _ _ ?_))
        clear hK10
        refine cseq ?_; intro K11 hK11
        refine creg ?_
        refine y (ev_move rfl) rfl ?_
        refine y (ev_move rfl) rfl ?_
        refine y (ev_move rfl) rfl ?_
        refine ycall (secWrite (bs := bs) ?ok17 ?rd17) rfl Try.call18 (by repeat first | exact .nil | exact .z | apply Pk.s | apply Tk.cons) rfl ?_
        case ok17 => first | exact hU.ok | exact hD
        case rd17 => first | exact hact.bytes.mono (by repeat first | exact .refl | exact .nil | exact .z | apply Pk.s | refine Ge.e ?_ | apply Ge.pick | apply Ge.drop) | exact hb.mono (by repeat first | exact .refl | exact .nil | exact .z | apply Pk.s | refine Ge.e ?_ | apply Ge.pick | apply Ge.drop)
        rintro v L' ⟨rfl, rfl⟩
        have hrr : ((D1.write i bs).1 = 2 ∧ (i < 0 ∨ n ≤ i)) ∨ ((D1.write i bs).1 = 3 ∧ (144 : Int) < bs.length) ∨ (D1.write i bs).1 = 0 := by
          have := hU.write i bs
          rw [this]; split
          · left; exact ⟨rfl, by omega⟩
          · split
            · right; left; exact ⟨rfl, by assumption⟩
            · right; right; rfl
        have hU2 := hU.write_up i bs
        have hsw := hU.sec_write_same (i := i) (bs := bs)
        refine y (ev_assign rfl) rfl ?_
        refine ynil' (kthn (hK11 _ _ ?_))
        clear hK11
        refine cseq ?_; intro K12 hK12
        refine cseq ?_; intro K13 hK13
        refine creg ?_
        refine y (ev_move rfl) rfl ?_
        refine y (ev_neq rfl rfl) rfl ?_
        refine ynil' (kthn (hK13 _ _ ?_))
        clear hK13
        refine ccond rfl (fun h21 => ?_) (fun h21 => ?_)
        · (try simp only [decide_eq_true_eq, beq_iff_eq, beq_eq_false_iff_ne, decide_eq_decide, decide_eq_false_iff_not, Bool.not_eq_true', Bool.not_eq_false', Bool.not_eq_true, Bool.not_eq_false, Bool.not_not, ne_eq, Option.isNone_some, Option.isSome_some, Option.isNone_none, Option.isSome_none] at h21)
          refine cseq ?_; intro K14 hK14
          refine creg ?_
          refine y (ev_move rfl) rfl ?_
          refine y (ev_eql rfl rfl) rfl ?_
          refine y (ev_move rfl) rfl ?_
          refine ysplit 55 rfl (fun h25 => ?_) (fun h25 => ?_)
          · (try simp only [decide_eq_true_eq, beq_iff_eq, beq_eq_false_iff_ne, decide_eq_decide, decide_eq_false_iff_not, Bool.not_eq_true', Bool.not_eq_false', Bool.not_eq_true, Bool.not_eq_false, Bool.not_not, ne_eq, Option.isNone_some, Option.isSome_some, Option.isNone_none, Option.isSome_none] at h25)
            refine yg1 rfl rfl ?_
            refine y (ev_move rfl) rfl ?_
            refine yg1 rfl rfl ?_
            refine y (ev_lss rfl rfl) rfl ?_
            refine yg1 rfl rfl ?_
            refine y (ev_move rfl) rfl ?_
            refine ysplit 58 rfl (fun h29 => ?_) (fun h29 => ?_)
            · (try simp only [decide_eq_true_eq, beq_iff_eq, beq_eq_false_iff_ne, decide_eq_decide, decide_eq_false_iff_not, Bool.not_eq_true', Bool.not_eq_false', Bool.not_eq_true, Bool.not_eq_false, Bool.not_not, ne_eq, Option.isNone_some, Option.isSome_some, Option.isNone_none, Option.isSome_none] at h29)
              refine yg0 rfl rfl rfl rfl ?_
              refine yg0 rfl rfl rfl rfl ?_
              refine yg0 rfl rfl rfl rfl ?_
              refine yg1 rfl rfl ?_
              refine y (ev_pick1 rfl rfl) rfl ?_
              refine y (ev_pick1 rfl rfl) rfl ?_
              refine y (ev_move rfl) rfl ?_
              refine yg0 rfl rfl rfl rfl ?_
              refine yg0 rfl rfl rfl rfl ?_
              refine yg0 rfl rfl rfl rfl ?_
              refine yg0u rfl rfl rfl ?_
              refine yg0u rfl rfl rfl ?_
              refine yg0u rfl rfl rfl ?_
              refine yg0 rfl rfl rfl rfl ?_
              refine y (ev_pick1 rfl rfl) rfl ?_
              refine y (ev_assign rfl) rfl ?_
              refine ynil' (kthn (hK14 _ _ ?_))
              clear hK14
              refine cret (kthr ?_)
              first
                | (exfalso; omega; done)
                | (refine kretv Try.results6 rfl (L1 := R) (by repeat first | exact .refl | exact .nil | exact .z | apply Pk.s | refine Ge.e ?_ | apply Ge.pick | apply Ge.drop) ?_
                   exact ⟨_, ⟨by first | rfl | (exfalso; omega; done) | (exfalso; simp_all; done) | (simp; omega) | simp_all, rfl⟩, by first | rfl | (exfalso; omega; done) | (exfalso; simp_all; done) | (simp; omega) | simp_all⟩)
            · (try simp only [decide_eq_true_eq, beq_iff_eq, beq_eq_false_iff_ne, decide_eq_decide, decide_eq_false_iff_not, Bool.not_eq_true', Bool.not_eq_false', Bool.not_eq_true, Bool.not_eq_false, Bool.not_not, ne_eq, Option.isNone_some, Option.isSome_some, Option.isNone_none, Option.isSome_none] at h29)
              refine yg1 rfl rfl ?_
              refine y (ev_move rfl) rfl ?_
              refine yg1 rfl rfl ?_
              refine y (ev_move rfl) rfl ?_
              refine yg1 rfl rfl ?_
              refine y (ev_geq rfl rfl) rfl ?_
              refine yg1 rfl rfl ?_
              refine y (ev_pick0 rfl rfl) rfl ?_
              refine y (ev_pick1 rfl rfl) rfl ?_
              refine y (ev_move rfl) rfl ?_
              refine ysplit 64 rfl (fun h41 => ?_) (fun h41 => ?_)
              · (try simp only [decide_eq_true_eq, beq_iff_eq, beq_eq_false_iff_ne, decide_eq_decide, decide_eq_false_iff_not, Bool.not_eq_true', Bool.not_eq_false', Bool.not_eq_true, Bool.not_eq_false, Bool.not_not, ne_eq, Option.isNone_some, Option.isSome_some, Option.isNone_none, Option.isSome_none] at h41)
                refine yg0 rfl rfl rfl rfl ?_
                refine yg0 rfl rfl rfl rfl ?_
                refine yg0 rfl rfl rfl rfl ?_
                refine yg0u rfl rfl rfl ?_
                refine yg0u rfl rfl rfl ?_
                refine yg0u rfl rfl rfl ?_
                refine yg0 rfl rfl rfl rfl ?_
                refine y (ev_pick1 rfl rfl) rfl ?_
                refine y (ev_assign rfl) rfl ?_
                refine ynil' (kthn (hK14 _ _ ?_))
                clear hK14
                refine cret (kthr ?_)
                first
                  | (exfalso; omega; done)
                  | (refine kretv Try.results6 rfl (L1 := R) (by repeat first | exact .refl | exact .nil | exact .z | apply Pk.s | refine Ge.e ?_ | apply Ge.pick | apply Ge.drop) ?_
                     exact ⟨_, ⟨by first | rfl | (exfalso; omega; done) | (exfalso; simp_all; done) | (simp; omega) | simp_all, rfl⟩, by first | rfl | (exfalso; omega; done) | (exfalso; simp_all; done) | (simp; omega) | simp_all⟩)
              · (try simp only [decide_eq_true_eq, beq_iff_eq, beq_eq_false_iff_ne, decide_eq_decide, decide_eq_false_iff_not, Bool.not_eq_true', Bool.not_eq_false', Bool.not_eq_true, Bool.not_eq_false, Bool.not_not, ne_eq, Option.isNone_some, Option.isSome_some, Option.isNone_none, Option.isSome_none] at h41)
                refine yg1 rfl rfl ?_
                refine y (ev_move rfl) rfl ?_
                refine yg1 rfl rfl ?_
                refine y (ev_eql rfl rfl) rfl ?_
                refine yg1 rfl rfl ?_
                refine y (ev_move rfl) rfl ?_
                refine ysplit 67 rfl (fun h47 => ?_) (fun h47 => ?_)
                · (try simp only [decide_eq_true_eq, beq_iff_eq, beq_eq_false_iff_ne, decide_eq_decide, decide_eq_false_iff_not, Bool.not_eq_true', Bool.not_eq_false', Bool.not_eq_true, Bool.not_eq_false, Bool.not_not, ne_eq, Option.isNone_some, Option.isSome_some, Option.isNone_none, Option.isSome_none] at h47)
                  refine yg1 rfl rfl ?_
                  refine y (ev_move rfl) rfl ?_
                  refine yg1 rfl rfl ?_
                  first
                    | refine y (ev_len rfl Try.underlying27) rfl ?_
                    | refine y (ev_lenSv rfl Try.underlying27 (by assumption)) rfl ?_
                    | refine y (ev_lenV rfl Try.underlying27 (RdV.lenVal (by assumption))) rfl ?_
                    | refine y (ev_lenV rfl Try.underlying27 (RdB.lenVal (by assumption))) rfl ?_
                  refine yg1 rfl rfl ?_
                  refine y (ev_gtr rfl rfl) rfl ?_
                  refine yg1 rfl rfl ?_
                  refine y (ev_pick1 rfl rfl) rfl ?_
                  refine y (ev_pick0 rfl rfl) rfl ?_
                  refine y (ev_assign rfl) rfl ?_
                  refine ynil' (kthn (hK14 _ _ ?_))
                  clear hK14
                  refine cret (kthr ?_)
                  first
                    | (exfalso; omega; done)
                    | (refine kretv Try.results6 rfl (L1 := R) (by repeat first | exact .refl | exact .nil | exact .z | apply Pk.s | refine Ge.e ?_ | apply Ge.pick | apply Ge.drop) ?_
                       exact ⟨_, ⟨by first | rfl | (exfalso; omega; done) | (exfalso; simp_all; done) | (simp; omega) | simp_all, rfl⟩, by first | rfl | (exfalso; omega; done) | (exfalso; simp_all; done) | (simp; omega) | simp_all⟩)
                · (try simp only [decide_eq_true_eq, beq_iff_eq, beq_eq_false_iff_ne, decide_eq_decide, decide_eq_false_iff_not, Bool.not_eq_true', Bool.not_eq_false', Bool.not_eq_true, Bool.not_eq_false, Bool.not_not, ne_eq, Option.isNone_some, Option.isSome_some, Option.isNone_none, Option.isSome_none] at h47)
                  refine yg0 rfl rfl rfl rfl ?_
                  refine yg0 rfl rfl rfl rfl ?_
                  refine yg0 rfl rfl rfl rfl ?_
                  refine yg1 rfl rfl ?_
                  refine y (ev_pick0 rfl rfl) rfl ?_
                  refine y (ev_pick0 rfl rfl) rfl ?_
                  refine y (ev_assign rfl) rfl ?_
                  refine ynil' (kthn (hK14 _ _ ?_))
                  clear hK14
                  refine cret (kthr ?_)
                  first
                    | (exfalso; omega; done)
                    | (refine kretv Try.results6 rfl (L1 := R) (by repeat first | exact .refl | exact .nil | exact .z | apply Pk.s | refine Ge.e ?_ | apply Ge.pick | apply Ge.drop) ?_
                       exact ⟨_, ⟨by first | rfl | (exfalso; omega; done) | (exfalso; simp_all; done) | (simp; omega) | simp_all, rfl⟩, by first | rfl | (exfalso; omega; done) | (exfalso; simp_all; done) | (simp; omega) | simp_all⟩)
          · (try simp only [decide_eq_true_eq, beq_iff_eq, beq_eq_false_iff_ne, decide_eq_decide, decide_eq_false_iff_not, Bool.not_eq_true', Bool.not_eq_false', Bool.not_eq_true, Bool.not_eq_false, Bool.not_not, ne_eq, Option.isNone_some, Option.isSome_some, Option.isNone_none, Option.isSome_none] at h25)
            refine yg0 rfl rfl rfl rfl ?_
            refine yg0 rfl rfl rfl rfl ?_
            refine yg0 rfl rfl rfl rfl ?_
            refine yg0u rfl rfl rfl ?_
            refine yg0u rfl rfl rfl ?_
            refine yg0u rfl rfl rfl ?_
            refine yg0 rfl rfl rfl rfl ?_
            refine y (ev_pick0 rfl rfl) rfl ?_
            refine y (ev_move rfl) rfl ?_
            refine yg1 rfl rfl ?_
            refine y (ev_move rfl) rfl ?_
            refine yg1 rfl rfl ?_
            refine y (ev_eql rfl rfl) rfl ?_
            refine yg1 rfl rfl ?_
            refine y (ev_move rfl) rfl ?_
            refine ysplit 67 rfl (fun h62 => ?_) (fun h62 => ?_)
            · (try simp only [decide_eq_true_eq, beq_iff_eq, beq_eq_false_iff_ne, decide_eq_decide, decide_eq_false_iff_not, Bool.not_eq_true', Bool.not_eq_false', Bool.not_eq_true, Bool.not_eq_false, Bool.not_not, ne_eq, Option.isNone_some, Option.isSome_some, Option.isNone_none, Option.isSome_none] at h62)
              refine yg1 rfl rfl ?_
              refine y (ev_move rfl) rfl ?_
              refine yg1 rfl rfl ?_
              first
                | refine y (ev_len rfl Try.underlying27) rfl ?_
                | refine y (ev_lenSv rfl Try.underlying27 (by assumption)) rfl ?_
                | refine y (ev_lenV rfl Try.underlying27 (RdV.lenVal (by assumption))) rfl ?_
                | refine y (ev_lenV rfl Try.underlying27 (RdB.lenVal (by assumption))) rfl ?_
              refine yg1 rfl rfl ?_
              refine y (ev_gtr rfl rfl) rfl ?_
              refine yg1 rfl rfl ?_
              refine y (ev_pick1 rfl rfl) rfl ?_
              refine y (ev_pick0 rfl rfl) rfl ?_
              refine y (ev_assign rfl) rfl ?_
              refine ynil' (kthn (hK14 _ _ ?_))
              clear hK14
              refine cret (kthr ?_)
              first
                | (exfalso; omega; done)
                | (refine kretv Try.results6 rfl (L1 := R) (by repeat first | exact .refl | exact .nil | exact .z | apply Pk.s | refine Ge.e ?_ | apply Ge.pick | apply Ge.drop) ?_
                   exact ⟨_, ⟨by first | rfl | (exfalso; omega; done) | (exfalso; simp_all; done) | (simp; omega) | simp_all, rfl⟩, by first | rfl | (exfalso; omega; done) | (exfalso; simp_all; done) | (simp; omega) | simp_all⟩)
            · (try simp only [decide_eq_true_eq, beq_iff_eq, beq_eq_false_iff_ne, decide_eq_decide, decide_eq_false_iff_not, Bool.not_eq_true', Bool.not_eq_false', Bool.not_eq_true, Bool.not_eq_false, Bool.not_not, ne_eq, Option.isNone_some, Option.isSome_some, Option.isNone_none, Option.isSome_none] at h62)
              refine yg0 rfl rfl rfl rfl ?_
              refine yg0 rfl rfl rfl rfl ?_
              refine yg0 rfl rfl rfl rfl ?_
              refine yg1 rfl rfl ?_
              refine y (ev_pick0 rfl rfl) rfl ?_
              refine y (ev_pick0 rfl rfl) rfl ?_
              refine y (ev_assign rfl) rfl ?_
              refine ynil' (kthn (hK14 _ _ ?_))
              clear hK14
              refine cret (kthr ?_)
              first
                | (exfalso; omega; done)
                | (refine kretv Try.results6 rfl (L1 := R) (by repeat first | exact .refl | exact .nil | exact .z | apply Pk.s | refine Ge.e ?_ | apply Ge.pick | apply Ge.drop) ?_
                   exact ⟨_, ⟨by first | rfl | (exfalso; omega; done) | (exfalso; simp_all; done) | (simp; omega) | simp_all, rfl⟩, by first | rfl | (exfalso; omega; done) | (exfalso; simp_all; done) | (simp; omega) | simp_all⟩)
        · (try simp only [decide_eq_true_eq, beq_iff_eq, beq_eq_false_iff_ne, decide_eq_decide, decide_eq_false_iff_not, Bool.not_eq_true', Bool.not_eq_false', Bool.not_eq_true, Bool.not_eq_false, Bool.not_not, ne_eq, Option.isNone_some, Option.isSome_some, Option.isNone_none, Option.isSome_none] at h21)
          obtain ⟨hs, hi0, hi1, hbl⟩ := hsw h21
          refine cskip' (kthn (hK12 _ _ ?_))
          clear hK12
          refine cseq ?_; intro K15 hK15
          refine cseq ?_; intro K16 hK16
          refine creg ?_
          refine y (ev_assign rfl) rfl ?_
          refine ynil' (kthn (hK16 _ _ ?_))
          clear hK16
          have hJ2 : ∀ x : Nat × Dev, ((Up x.2 n.toNat ∧ x.2.sec i = pad bs ∧ x.1 ≤ more.length ∧ x.1 ≤ 80) ∧ (True)) → Sk 154 K15 ([(14, i64 x.1), (11, dp q), (4, mv), (2, i64 i), (3, bv)]) ([dev q x.2] ++ R) := by
            rintro ⟨k, D⟩ ⟨hI2, hX2⟩
            refine hK15 _ _ ?_
            obtain ⟨hU, hs, hk1, hk2⟩ := hI2; dsimp only at hU hs hk1 hk2 ⊢
            refine cseq ?_; intro K17 hK17
            refine creg ?_
            refine y (ev_move rfl) rfl ?_
            refine y (ev_move rfl) rfl ?_
            refine ycall (secReadOk hU.ok (by rw [hU.has]; exact if_neg (by omega))) rfl Try.call30 (by repeat first | exact .nil | exact .z | apply Pk.s | apply Tk.cons) rfl ?_
            rintro v L' ⟨b121, cap121, sp121, rfl, hc121, rfl⟩
            rw [hs]
            refine y (ev_move rfl) rfl ?_
            refine y (ev_extract rfl rfl) rfl ?_
            refine y (ev_extract rfl rfl) rfl ?_
            refine y (ev_assign rfl) rfl ?_
            refine y (ev_assign rfl) rfl ?_
            refine ynil' (kthn (hK17 _ _ ?_))
            clear hK17
            refine cseq ?_; intro K18 hK18
            refine cseq ?_; intro K19 hK19
            refine cdraw 16 [(0, true), (1, true), (2, true), (3, true), (4, true), (5, true), (6, true), (7, true), (8, true), (9, true), (10, true), (11, true), (12, true), (13, true), (14, true), (15, true)] (_) Try.mixed (by kernel_rfl) .refl ?_
            refine hr rfl (ev_move rfl) rfl ?_
            refine hr rfl (ev_neq rfl rfl) rfl ?_
            refine hr rfl (ev_move rfl) rfl ?_
            refine hsplit 126 rfl (fun h84 => ?_) (fun h84 => ?_)
            · (try simp only [decide_eq_true_eq, beq_iff_eq, beq_eq_false_iff_ne, decide_eq_decide, decide_eq_false_iff_not, Bool.not_eq_true', Bool.not_eq_false', Bool.not_eq_true, Bool.not_eq_false, Bool.not_not, ne_eq, Option.isNone_some, Option.isSome_some, Option.isNone_none, Option.isSome_none] at h84)
              refine hr0 rfl rfl rfl rfl rfl ?_
              refine hr0 rfl rfl rfl rfl rfl ?_
              refine hr0 rfl rfl rfl rfl rfl ?_
              refine hr rfl (ev_pick1 rfl rfl) rfl ?_
              refine hr rfl (ev_move rfl) rfl ?_
              refine hr0 rfl rfl rfl rfl rfl ?_
              refine hr0 rfl rfl rfl rfl rfl ?_
              refine hr0 rfl rfl rfl rfl rfl ?_
              refine hr0 rfl rfl rfl rfl rfl ?_
              refine hr0 rfl rfl rfl rfl rfl ?_
              refine hr0 rfl rfl rfl rfl rfl ?_
              refine hr0 rfl rfl rfl rfl rfl ?_
              refine hr0 rfl rfl rfl rfl rfl ?_
              refine hnil ?_
              refine y (ev_pick1 rfl rfl) rfl ?_
              refine hnoP' (kthn (hK19 _ _ ?_))
              clear hK19
              refine ccond1 rfl ?_
              refine cseq ?_; intro K20 hK20
              refine creg ?_
              refine y (ev_assign rfl) rfl ?_
              refine ynil' (kthn (hK20 _ _ ?_))
              clear hK20
              refine cret (kthr ?_)
              first
                | (exfalso; omega; done)
                | (refine kretv Try.results6 rfl (L1 := R) (by repeat first | exact .refl | exact .nil | exact .z | apply Pk.s | refine Ge.e ?_ | apply Ge.pick | apply Ge.drop) ?_
                   exact ⟨_, ⟨by first | rfl | (exfalso; omega; done) | (exfalso; simp_all; done) | (simp; omega) | simp_all, rfl⟩, by first | rfl | (exfalso; omega; done) | (exfalso; simp_all; done) | (simp; omega) | simp_all⟩)
            · (try simp only [decide_eq_true_eq, beq_iff_eq, beq_eq_false_iff_ne, decide_eq_decide, decide_eq_false_iff_not, Bool.not_eq_true', Bool.not_eq_false', Bool.not_eq_true, Bool.not_eq_false, Bool.not_not, ne_eq, Option.isNone_some, Option.isSome_some, Option.isNone_none, Option.isSome_none] at h84)
              refine hr1 rfl rfl rfl (ev_move rfl) rfl ?_
              first
                | refine hr1 rfl rfl rfl (ev_len rfl Try.underlying27) rfl ?_
                | refine hr1 rfl rfl rfl (ev_lenSv rfl Try.underlying27 (by assumption)) rfl ?_
                | refine hr1 rfl rfl rfl (ev_lenV rfl Try.underlying27 (RdV.lenVal (by assumption))) rfl ?_
                | refine hr1 rfl rfl rfl (ev_lenV rfl Try.underlying27 (RdB.lenVal (by assumption))) rfl ?_
              refine hr1 rfl rfl rfl (ev_neq rfl rfl) rfl ?_
              refine hr rfl (ev_pick0 rfl rfl) rfl ?_
              refine hr rfl (ev_move rfl) rfl ?_
              refine hsplit 131 rfl (fun h94 => ?_) (fun h94 => ?_)
              · (try simp only [decide_eq_true_eq, beq_iff_eq, beq_eq_false_iff_ne, decide_eq_decide, decide_eq_false_iff_not, Bool.not_eq_true', Bool.not_eq_false', Bool.not_eq_true, Bool.not_eq_false, Bool.not_not, ne_eq, Option.isNone_some, Option.isSome_some, Option.isNone_none, Option.isSome_none] at h94)
                refine hr0 rfl rfl rfl rfl rfl ?_
                refine hr0 rfl rfl rfl rfl rfl ?_
                refine hr0 rfl rfl rfl rfl rfl ?_
                refine hr0 rfl rfl rfl rfl rfl ?_
                refine hr0 rfl rfl rfl rfl rfl ?_
                refine hr0 rfl rfl rfl rfl rfl ?_
                refine hr0 rfl rfl rfl rfl rfl ?_
                refine hr0 rfl rfl rfl rfl rfl ?_
                refine hnil ?_
                refine y (ev_pick1 rfl rfl) rfl ?_
                refine hnoP' (kthn (hK19 _ _ ?_))
                clear hK19
                refine ccond1 rfl ?_
                refine cseq ?_; intro K21 hK21
                refine creg ?_
                refine y (ev_assign rfl) rfl ?_
                refine ynil' (kthn (hK21 _ _ ?_))
                clear hK21
                refine cret (kthr ?_)
                first
                  | (exfalso; omega; done)
                  | (refine kretv Try.results6 rfl (L1 := R) (by repeat first | exact .refl | exact .nil | exact .z | apply Pk.s | refine Ge.e ?_ | apply Ge.pick | apply Ge.drop) ?_
                     exact ⟨_, ⟨by first | rfl | (exfalso; omega; done) | (exfalso; simp_all; done) | (simp; omega) | simp_all, rfl⟩, by first | rfl | (exfalso; omega; done) | (exfalso; simp_all; done) | (simp; omega) | simp_all⟩)
              · (try simp only [decide_eq_true_eq, beq_iff_eq, beq_eq_false_iff_ne, decide_eq_decide, decide_eq_false_iff_not, Bool.not_eq_true', Bool.not_eq_false', Bool.not_eq_true, Bool.not_eq_false, Bool.not_not, ne_eq, Option.isNone_some, Option.isSome_some, Option.isNone_none, Option.isSome_none] at h94)
                refine hr1 rfl rfl rfl (ev_move rfl) rfl ?_
                refine hr1 rfl rfl rfl (ev_move rfl) rfl ?_
                first
                  | refine hr1 rfl rfl rfl (ev_len rfl Try.underlying27) rfl ?_
                  | refine hr1 rfl rfl rfl (ev_lenSv rfl Try.underlying27 (by assumption)) rfl ?_
                  | refine hr1 rfl rfl rfl (ev_lenV rfl Try.underlying27 (RdV.lenVal (by assumption))) rfl ?_
                  | refine hr1 rfl rfl rfl (ev_lenV rfl Try.underlying27 (RdB.lenVal (by assumption))) rfl ?_
                refine hr1 rfl rfl rfl (ev_slH rfl rfl Try.underlying27 Try.sizeOf5 (by omega) (by omega)) rfl ?_
                refine hr1 rfl rfl rfl (ev_toStr (bs := bs) rfl Try.underlying27 Try.underlying9 Try.underlying5 (by simp) (by repeat first | exact .z | apply In.s) pad_take) rfl ?_
                refine hr1 rfl rfl rfl (ev_move rfl) rfl ?_
                refine hr1 rfl rfl rfl (ev_toStrB hb (by repeat first | exact .refl | exact .nil | exact .z | apply Pk.s | refine Ge.e ?_ | apply Ge.pick | apply Ge.drop) rfl Try.underlying27 Try.underlying9 Try.underlying5) rfl ?_
                first
                  | refine hr1 rfl rfl rfl (ev_neqL rfl rfl) rfl ?_
                  | refine hr1 rfl rfl rfl (ev_neqS rfl rfl) rfl ?_
                refine hnil ?_
                refine y (ev_pick0 rfl rfl) rfl ?_
                refine hnoP' (kthn (hK19 _ _ ?_))
                clear hK19
                refine ccond rfl (fun h106 => ?_) (fun h106 => ?_)
                · (try simp only [decide_eq_true_eq, beq_iff_eq, beq_eq_false_iff_ne, decide_eq_decide, decide_eq_false_iff_not, Bool.not_eq_true', Bool.not_eq_false', Bool.not_eq_true, Bool.not_eq_false, Bool.not_not, ne_eq, Option.isNone_some, Option.isSome_some, Option.isNone_none, Option.isSome_none] at h106)
                  refine cseq ?_; intro K22 hK22
                  refine creg ?_
                  refine y (ev_assign rfl) rfl ?_
                  refine ynil' (kthn (hK22 _ _ ?_))
                  clear hK22
                  refine cret (kthr ?_)
                  first
                    | (exfalso; omega; done)
                    | (refine kretv Try.results6 rfl (L1 := R) (by repeat first | exact .refl | exact .nil | exact .z | apply Pk.s | refine Ge.e ?_ | apply Ge.pick | apply Ge.drop) ?_
                       exact ⟨_, ⟨by first | rfl | (exfalso; omega; done) | (exfalso; simp_all; done) | (simp; omega) | simp_all, rfl⟩, by first | rfl | (exfalso; omega; done) | (exfalso; simp_all; done) | (simp; omega) | simp_all⟩)
                · (try simp only [decide_eq_true_eq, beq_iff_eq, beq_eq_false_iff_ne, decide_eq_decide, decide_eq_false_iff_not, Bool.not_eq_true', Bool.not_eq_false', Bool.not_eq_true, Bool.not_eq_false, Bool.not_not, ne_eq, Option.isNone_some, Option.isSome_some, Option.isNone_none, Option.isSome_none] at h106)
                  refine cskip' (kthn (hK18 _ _ ?_))
                  clear hK18
                  refine cseq ?_; intro K23 hK23
                  refine cseq ?_; intro K24 hK24
                  refine creg ?_
                  refine y (ev_move rfl) rfl ?_
                  first
                    | refine y (ev_len rfl Try.underlying27) rfl ?_
                    | refine y (ev_lenSv rfl Try.underlying27 (by assumption)) rfl ?_
                    | refine y (ev_lenV rfl Try.underlying27 (RdV.lenVal (by assumption))) rfl ?_
                    | refine y (ev_lenV rfl Try.underlying27 (RdB.lenVal (by assumption))) rfl ?_
                  refine y (ev_assign rfl) rfl ?_
                  refine ynil' (kthn (hK24 _ _ ?_))
                  clear hK24
                  refine cblock ?_
                  refine cloop (A := Nat) (fun x => [(17, i64 x), (15, .slice (some ⟨b121, 0, none⟩) 144 cap121)]) (fun x => [sc b121 (bytesV (pad bs) ++ sp121) 5] ++ R) (fun x => bs.length ≤ x ∧ x ≤ 144) (fun x => 144 - x) (bs.length) ?_ (by repeat first | exact sub_nil | refine sub_cons rfl ?_ | refine sub_cons' rfl (by simp) ?_) (by repeat first | exact .refl | exact .nil | exact .z | apply Pk.s | refine Ge.e ?_ | apply Ge.pick | apply Ge.drop) ?_
                  · exact ⟨Nat.le_refl _, hbl⟩
                  rintro z hI3 KL3 hL3
                  obtain ⟨hz0, hz1⟩ := hI3
                  refine cseq ?_; intro K25 hK25
                  refine cseq ?_; intro K26 hK26
                  refine creg ?_
                  refine y (ev_move rfl) rfl ?_
                  refine y (ev_move rfl) rfl ?_
                  first
                    | refine y (ev_len rfl Try.underlying27) rfl ?_
                    | refine y (ev_lenSv rfl Try.underlying27 (by assumption)) rfl ?_
                    | refine y (ev_lenV rfl Try.underlying27 (RdV.lenVal (by assumption))) rfl ?_
                    | refine y (ev_lenV rfl Try.underlying27 (RdB.lenVal (by assumption))) rfl ?_
                  refine y (ev_lss rfl rfl) rfl ?_
                  refine ynil' (kthn (hK26 _ _ ?_))
                  clear hK26
                  refine ccond rfl (fun h115 => ?_) (fun h115 => ?_)
                  · (try simp only [decide_eq_true_eq, beq_iff_eq, beq_eq_false_iff_ne, decide_eq_decide, decide_eq_false_iff_not, Bool.not_eq_true', Bool.not_eq_false', Bool.not_eq_true, Bool.not_eq_false, Bool.not_not, ne_eq, Option.isNone_some, Option.isSome_some, Option.isNone_none, Option.isSome_none] at h115)
                    refine cskip' (kthn (hK25 _ _ ?_))
                    clear hK25
                    refine cseq ?_; intro K27 hK27
                    refine cblock ?_
                    refine cseq ?_; intro K28 hK28
                    refine creg ?_
                    refine y (ev_move rfl) rfl ?_
                    refine y (ev_move rfl) rfl ?_
                    first
                      | refine y (ev_ixAddr rfl rfl Try.underlying27 Try.sizeOf5 (by omega) (by omega)) rfl ?_
                      | refine y (ev_ixV (by assumption) rfl rfl Try.underlying27 Try.sizeOf5 (by omega) (by omega)) rfl ?_
                    refine y (ev_load rfl Try.isAgg5 (by repeat first | exact .z | apply In.s) (by rw [show 0 + (z : Int).toNat * 1 = z by simp]; exact pad_zero hz0 (by omega))) rfl ?_
                    refine y (ev_neq rfl rfl) rfl ?_
                    refine ynil' (kthn (hK28 _ _ ?_))
                    clear hK28
                    refine ccond rfl (fun h121 => ?_) (fun h121 => ?_)
                    · (try simp only [decide_eq_true_eq, beq_iff_eq, beq_eq_false_iff_ne, decide_eq_decide, decide_eq_false_iff_not, Bool.not_eq_true', Bool.not_eq_false', Bool.not_eq_true, Bool.not_eq_false, Bool.not_not, ne_eq, Option.isNone_some, Option.isSome_some, Option.isNone_none, Option.isSome_none] at h121)
                      refine cseq ?_; intro K29 hK29
                      refine creg ?_
                      refine y (ev_assign rfl) rfl ?_
                      refine ynil' (kthn (hK29 _ _ ?_))
                      clear hK29
                      refine cret (kbr (kthr (kthr (kbr (kthr ?_)))))
                      first
                        | (exfalso; omega; done)
                        | (refine kretv Try.results6 rfl (L1 := R) (by repeat first | exact .refl | exact .nil | exact .z | apply Pk.s | refine Ge.e ?_ | apply Ge.pick | apply Ge.drop) ?_
                           exact ⟨_, ⟨by first | rfl | (exfalso; omega; done) | (exfalso; simp_all; done) | (simp; omega) | simp_all, rfl⟩, by first | rfl | (exfalso; omega; done) | (exfalso; simp_all; done) | (simp; omega) | simp_all⟩)
                    · (try simp only [decide_eq_true_eq, beq_iff_eq, beq_eq_false_iff_ne, decide_eq_decide, decide_eq_false_iff_not, Bool.not_eq_true', Bool.not_eq_false', Bool.not_eq_true, Bool.not_eq_false, Bool.not_not, ne_eq, Option.isNone_some, Option.isSome_some, Option.isNone_none, Option.isSome_none] at h121)
                      refine cskip' (kbn (kthn (hK27 _ _ ?_)))
                      clear hK27
                      refine creg ?_
                      refine y (ev_move rfl) rfl ?_
                      refine y (ev_add rfl rfl) rfl ?_
                      rw [show IntKind.i64.wrap ((z:Int) + 1) = ((z+1 : Nat) : Int) by rw [wr (by omega) (by omega)]; rfl]
                      refine y (ev_assign rfl) rfl ?_
                      refine ynil' (kthn ?_)
                      exact hL3 (z + 1) (⟨by omega, by omega⟩) (by omega) _ _ (by repeat first | exact sub_nil | refine sub_cons rfl ?_ | refine sub_cons' rfl (by simp) ?_) (by repeat first | exact .refl | exact .nil | exact .z | apply Pk.s | refine Ge.e ?_ | apply Ge.pick | apply Ge.drop)
                  · (try simp only [decide_eq_true_eq, beq_iff_eq, beq_eq_false_iff_ne, decide_eq_decide, decide_eq_false_iff_not, Bool.not_eq_true', Bool.not_eq_false', Bool.not_eq_true, Bool.not_eq_false, Bool.not_not, ne_eq, Option.isNone_some, Option.isSome_some, Option.isNone_none, Option.isSome_none] at h115)
                    refine cexit (kthx (kthx (kbx (kthn (hK23 _ _ ?_)))))
                    clear hK23
                    refine cseq ?_; intro K30 hK30
                    refine creg ?_
                    refine y (ev_assign rfl) rfl ?_
                    refine ynil' (kthn (hK30 _ _ ?_))
                    clear hK30
                    refine cret ?_
                    first
                      | (exfalso; omega; done)
                      | (refine kretv Try.results6 rfl (L1 := R) (by repeat first | exact .refl | exact .nil | exact .z | apply Pk.s | refine Ge.e ?_ | apply Ge.pick | apply Ge.drop) ?_
                         exact ⟨_, ⟨by first | rfl | (exfalso; omega; done) | (exfalso; simp_all; done) | (simp; omega) | simp_all, rfl⟩, by first | rfl | (exfalso; omega; done) | (exfalso; simp_all; done) | (simp; omega) | simp_all⟩)
          clear hK15
          refine cblock ?_
          refine cloop (A := Nat × Dev) (fun x => [(14, i64 x.1), (11, dp q), (4, mv), (2, i64 i), (3, bv)]) (fun x => [dev q x.2] ++ R) (fun x => Up x.2 n.toNat ∧ x.2.sec i = pad bs ∧ x.1 ≤ more.length ∧ x.1 ≤ 80) (fun x => more.length - x.1) ((0, (D1.write i bs).2)) ?_ (by repeat first | exact sub_nil | refine sub_cons rfl ?_ | refine sub_cons' rfl (by simp) ?_) (by repeat first | exact .refl | exact .nil | exact .z | apply Pk.s | refine Ge.e ?_ | apply Ge.pick | apply Ge.drop) ?_
          · exact ⟨hU2, hs, Nat.zero_le _, Nat.zero_le _⟩
          rintro ⟨k, D⟩ hI2 KL2 hL2
          have hI2o := hI2
          obtain ⟨hU, hs, hk1, hk2⟩ := hI2; dsimp only at hU hs hk1 hk2 ⊢
          refine cseq ?_; intro K31 hK31
          refine cseq ?_; intro K32 hK32
          refine creg ?_
          refine y (ev_move rfl) rfl ?_
          refine y (ev_move rfl) rfl ?_
          first
            | refine y (ev_len rfl Try.underlying22) rfl ?_
            | refine y (ev_lenSv rfl Try.underlying22 (by assumption)) rfl ?_
            | refine y (ev_lenV rfl Try.underlying22 (RdV.lenVal (by assumption))) rfl ?_
            | refine y (ev_lenV rfl Try.underlying22 (RdB.lenVal (by assumption))) rfl ?_
          refine y (ev_lss rfl rfl) rfl ?_
          refine y (ev_move rfl) rfl ?_
          refine ysplit 77 rfl (fun h132 => ?_) (fun h132 => ?_)
          · (try simp only [decide_eq_true_eq, beq_iff_eq, beq_eq_false_iff_ne, decide_eq_decide, decide_eq_false_iff_not, Bool.not_eq_true', Bool.not_eq_false', Bool.not_eq_true, Bool.not_eq_false, Bool.not_not, ne_eq, Option.isNone_some, Option.isSome_some, Option.isNone_none, Option.isSome_none] at h132)
            refine yg1 rfl rfl ?_
            refine y (ev_move rfl) rfl ?_
            refine yg1 rfl rfl ?_
            refine y (ev_lss rfl rfl) rfl ?_
            refine y (ev_pick1 rfl rfl) rfl ?_
            refine ynil' (kthn (hK32 _ _ ?_))
            clear hK32
            refine ccond rfl (fun h136 => ?_) (fun h136 => ?_)
            · (try simp only [decide_eq_true_eq, beq_iff_eq, beq_eq_false_iff_ne, decide_eq_decide, decide_eq_false_iff_not, Bool.not_eq_true', Bool.not_eq_false', Bool.not_eq_true, Bool.not_eq_false, Bool.not_not, ne_eq, Option.isNone_some, Option.isSome_some, Option.isNone_none, Option.isSome_none] at h136)
              obtain ⟨a, hka⟩ : ∃ a, more[k]? = some a := ⟨_, List.getElem?_eq_getElem (by omega)⟩
              have hact := hma a (List.mem_of_getElem? hka)
              obtain ⟨hc0, hc1, hc2, hc3⟩ := actsV_at hka
              refine cskip' (kthn (hK31 _ _ ?_))
              clear hK31
              refine cseq ?_; intro K33 hK33
              refine cblock ?_
              refine cseq ?_; intro K34 hK34
              refine cseq ?_; intro K35 hK35
              refine creg ?_
              refine y (ev_move rfl) rfl ?_
              refine y (ev_move rfl) rfl ?_
              first
                | refine y (ev_ixAddr rfl rfl Try.underlying22 Try.sizeOf30 (by omega) (by omega)) rfl ?_
                | refine y (ev_ixV (by assumption) rfl rfl Try.underlying22 Try.sizeOf30 (by omega) (by omega)) rfl ?_
              refine y (ev_fieldAddr 1 rfl Try.underlying30 rfl Try.sizeOf3) rfl ?_
              refine y (ev_loadV (k * 4 + 1) hm (by repeat first | exact .refl | exact .nil | exact .z | apply Pk.s | refine Ge.e ?_ | apply Ge.pick | apply Ge.drop) rfl Try.isAgg3 (by simp; omega) hc1) rfl ?_
              refine y (ev_move rfl) rfl ?_
              refine y (ev_neq rfl rfl) rfl ?_
              refine y (ev_move rfl) rfl ?_
              refine ysplit 90 rfl (fun h145 => ?_) (fun h145 => ?_)
              · (try simp only [decide_eq_true_eq, beq_iff_eq, beq_eq_false_iff_ne, decide_eq_decide, decide_eq_false_iff_not, Bool.not_eq_true', Bool.not_eq_false', Bool.not_eq_true, Bool.not_eq_false, Bool.not_not, ne_eq, Option.isNone_some, Option.isSome_some, Option.isNone_none, Option.isSome_none] at h145)
                refine yg1 rfl rfl ?_
                refine y (ev_move rfl) rfl ?_
                refine yg1 rfl rfl ?_
                refine y (ev_move rfl) rfl ?_
                refine yg1 rfl rfl ?_
                first
                  | refine y (ev_ixAddr rfl rfl Try.underlying22 Try.sizeOf30 (by omega) (by omega)) rfl ?_
                  | refine y (ev_ixV (by assumption) rfl rfl Try.underlying22 Try.sizeOf30 (by omega) (by omega)) rfl ?_
                refine yg1 rfl rfl ?_
                refine y (ev_loadNV (us := a.cells) (k * 4) hm (by repeat first | exact .refl | exact .nil | exact .z | apply Pk.s | refine Ge.e ?_ | apply Ge.pick | apply Ge.drop) rfl Try.isAgg30 Try.sizeOf30 (by simp) (actsV_get _ _ _ hka) rfl) rfl ?_
                refine yg1 rfl rfl ?_
                refine ycall (large ?act150) rfl Try.call21 (by repeat first | exact .nil | exact .z | apply Pk.s | apply Tk.cons) rfl ?_
                case act150 => exact hact.mono (by repeat first | exact .refl | exact .nil | exact .z | apply Pk.s | refine Ge.e ?_ | apply Ge.pick | apply Ge.drop)
                rintro v L' ⟨rfl, rfl⟩
                refine yg1 rfl rfl ?_
                refine y (ev_not rfl) rfl ?_
                refine y (ev_pick1 rfl rfl) rfl ?_
                refine ynil' (kthn (hK35 _ _ ?_))
                clear hK35
                refine ccond rfl (fun h153 => ?_) (fun h153 => ?_)
                · (try simp only [decide_eq_true_eq, beq_iff_eq, beq_eq_false_iff_ne, decide_eq_decide, decide_eq_false_iff_not, Bool.not_eq_true', Bool.not_eq_false', Bool.not_eq_true, Bool.not_eq_false, Bool.not_not, ne_eq, Option.isNone_some, Option.isSome_some, Option.isNone_none, Option.isSome_none] at h153)
                  refine cdraw 11 [(0, true), (1, true), (2, true), (3, true), (4, true), (5, true), (6, true), (7, true), (8, true), (9, true), (10, true)] (_) Try.mixed (by kernel_rfl) .refl ?_
                  refine hr rfl (ev_move rfl) rfl ?_
                  refine hr rfl (ev_move rfl) rfl ?_
                  refine hr rfl (ev_move rfl) rfl ?_
                  first
                    | refine hr rfl (ev_ixAddr rfl rfl Try.underlying22 Try.sizeOf30 (by omega) (by omega)) rfl ?_
                    | refine hr rfl (ev_ixV (by assumption) rfl rfl Try.underlying22 Try.sizeOf30 (by omega) (by omega)) rfl ?_
                  refine hr rfl (ev_fieldAddr 1 rfl Try.underlying30 rfl Try.sizeOf3) rfl ?_
                  refine hr rfl (ev_loadV (k * 4 + 1) hm (by repeat first | exact .refl | exact .nil | exact .z | apply Pk.s | refine Ge.e ?_ | apply Ge.pick | apply Ge.drop) rfl Try.isAgg3 (by simp; omega) hc1) rfl ?_
                  refine hr rfl (ev_move rfl) rfl ?_
                  refine hr rfl (ev_move rfl) rfl ?_
                  first
                    | refine hr rfl (ev_ixAddr rfl rfl Try.underlying22 Try.sizeOf30 (by omega) (by omega)) rfl ?_
                    | refine hr rfl (ev_ixV (by assumption) rfl rfl Try.underlying22 Try.sizeOf30 (by omega) (by omega)) rfl ?_
                  refine hr rfl (ev_fieldAddr 2 rfl Try.underlying30 rfl Try.sizeOf27) rfl ?_
                  refine hr rfl (ev_loadV (k * 4 + 2) hm (by repeat first | exact .refl | exact .nil | exact .z | apply Pk.s | refine Ge.e ?_ | apply Ge.pick | apply Ge.drop) rfl Try.isAgg27 (by simp; omega) hc2) rfl ?_
                  refine hnil ?_
                  refine ycall (secWrite (bs := a.bs) ?ok165 ?rd165) rfl Try.call18 (by repeat first | exact .nil | exact .z | apply Pk.s | apply Tk.cons) rfl ?_
                  case ok165 => first | exact hU.ok | exact hD
                  case rd165 => first | exact hact.bytes.mono (by repeat first | exact .refl | exact .nil | exact .z | apply Pk.s | refine Ge.e ?_ | apply Ge.pick | apply Ge.drop) | exact hb.mono (by repeat first | exact .refl | exact .nil | exact .z | apply Pk.s | refine Ge.e ?_ | apply Ge.pick | apply Ge.drop)
                  rintro v L' ⟨rfl, rfl⟩
                  have hs := (hU.sec_write_other (i := i) (j := a.i) (by assumption) a.bs).trans hs
                  have hU := hU.write_up a.i a.bs
                  refine hnoP' (kthn (hK34 _ _ ?_))
                  clear hK34
                  refine cseq ?_; intro K36 hK36
                  refine creg ?_
                  refine y (ev_move rfl) rfl ?_
                  refine y (ev_move rfl) rfl ?_
                  first
                    | refine y (ev_ixAddr rfl rfl Try.underlying22 Try.sizeOf30 (by omega) (by omega)) rfl ?_
                    | refine y (ev_ixV (by assumption) rfl rfl Try.underlying22 Try.sizeOf30 (by omega) (by omega)) rfl ?_
                  refine y (ev_fieldAddr 0 rfl Try.underlying30 rfl Try.sizeOf3) rfl ?_
                  refine y (ev_loadV (k * 4) hm (by repeat first | exact .refl | exact .nil | exact .z | apply Pk.s | refine Ge.e ?_ | apply Ge.pick | apply Ge.drop) rfl Try.isAgg3 (by simp) hc0) rfl ?_
                  refine y (ev_eql rfl rfl) rfl ?_
                  refine ynil' (kthn (hK36 _ _ ?_))
                  clear hK36
                  refine ccond rfl (fun h172 => ?_) (fun h172 => ?_)
                  · (try simp only [decide_eq_true_eq, beq_iff_eq, beq_eq_false_iff_ne, decide_eq_decide, decide_eq_false_iff_not, Bool.not_eq_true', Bool.not_eq_false', Bool.not_eq_true, Bool.not_eq_false, Bool.not_not, ne_eq, Option.isNone_some, Option.isSome_some, Option.isNone_none, Option.isSome_none] at h172)
                    refine creg ?_
                    refine y (ev_move rfl) rfl ?_
                    refine ycall (secBarrier ?ok174) rfl Try.call17 (by repeat first | exact .nil | exact .z | apply Pk.s | apply Tk.cons) rfl ?_
                    case ok174 => first | exact hU.ok | exact hD
                    rintro v L' ⟨rfl, rfl⟩
                    have hs := (hU.sec_barrier (i := i) hi0 (by omega)).trans hs
                    have hU := hU.barrier_up
                    refine ynil' (kbn (kthn (hK33 _ _ ?_)))
                    clear hK33
                    refine creg ?_
                    refine y (ev_move rfl) rfl ?_
                    refine y (ev_add rfl rfl) rfl ?_
                    rw [show IntKind.i64.wrap ((k:Int) + 1) = ((k+1 : Nat) : Int) by rw [wr (by omega) (by omega)]; rfl]
                    refine y (ev_assign rfl) rfl ?_
                    refine ynil' (kthn ?_)
                    first
                      | (exfalso; omega; done)
                      | exact hL2 (k + 1, _) ⟨hU, hs, by dsimp only; omega, by dsimp only; omega⟩ (by dsimp only; omega) _ _ (by repeat first | exact sub_nil | refine sub_cons rfl ?_ | refine sub_cons' rfl (by simp) ?_) (by repeat first | exact .refl | exact .nil | exact .z | apply Pk.s | refine Ge.e ?_ | apply Ge.pick | apply Ge.drop)
                  · (try simp only [decide_eq_true_eq, beq_iff_eq, beq_eq_false_iff_ne, decide_eq_decide, decide_eq_false_iff_not, Bool.not_eq_true', Bool.not_eq_false', Bool.not_eq_true, Bool.not_eq_false, Bool.not_not, ne_eq, Option.isNone_some, Option.isSome_some, Option.isNone_none, Option.isSome_none] at h172)
                    refine cskip' (kbn (kthn (hK33 _ _ ?_)))
                    clear hK33
                    refine creg ?_
                    refine y (ev_move rfl) rfl ?_
                    refine y (ev_add rfl rfl) rfl ?_
                    rw [show IntKind.i64.wrap ((k:Int) + 1) = ((k+1 : Nat) : Int) by rw [wr (by omega) (by omega)]; rfl]
                    refine y (ev_assign rfl) rfl ?_
                    refine ynil' (kthn ?_)
                    first
                      | (exfalso; omega; done)
                      | exact hL2 (k + 1, _) ⟨hU, hs, by dsimp only; omega, by dsimp only; omega⟩ (by dsimp only; omega) _ _ (by repeat first | exact sub_nil | refine sub_cons rfl ?_ | refine sub_cons' rfl (by simp) ?_) (by repeat first | exact .refl | exact .nil | exact .z | apply Pk.s | refine Ge.e ?_ | apply Ge.pick | apply Ge.drop)
                · (try simp only [decide_eq_true_eq, beq_iff_eq, beq_eq_false_iff_ne, decide_eq_decide, decide_eq_false_iff_not, Bool.not_eq_true', Bool.not_eq_false', Bool.not_eq_true, Bool.not_eq_false, Bool.not_not, ne_eq, Option.isNone_some, Option.isSome_some, Option.isNone_none, Option.isSome_none] at h153)
                  refine cskip' (kthn (hK34 _ _ ?_))
                  clear hK34
                  refine cseq ?_; intro K37 hK37
                  refine creg ?_
                  refine y (ev_move rfl) rfl ?_
                  refine y (ev_move rfl) rfl ?_
                  first
                    | refine y (ev_ixAddr rfl rfl Try.underlying22 Try.sizeOf30 (by omega) (by omega)) rfl ?_
                    | refine y (ev_ixV (by assumption) rfl rfl Try.underlying22 Try.sizeOf30 (by omega) (by omega)) rfl ?_
                  refine y (ev_fieldAddr 0 rfl Try.underlying30 rfl Try.sizeOf3) rfl ?_
                  refine y (ev_loadV (k * 4) hm (by repeat first | exact .refl | exact .nil | exact .z | apply Pk.s | refine Ge.e ?_ | apply Ge.pick | apply Ge.drop) rfl Try.isAgg3 (by simp) hc0) rfl ?_
                  refine y (ev_eql rfl rfl) rfl ?_
                  refine ynil' (kthn (hK37 _ _ ?_))
                  clear hK37
                  refine ccond rfl (fun h187 => ?_) (fun h187 => ?_)
                  · (try simp only [decide_eq_true_eq, beq_iff_eq, beq_eq_false_iff_ne, decide_eq_decide, decide_eq_false_iff_not, Bool.not_eq_true', Bool.not_eq_false', Bool.not_eq_true, Bool.not_eq_false, Bool.not_not, ne_eq, Option.isNone_some, Option.isSome_some, Option.isNone_none, Option.isSome_none] at h187)
                    refine creg ?_
                    refine y (ev_move rfl) rfl ?_
                    refine ycall (secBarrier ?ok189) rfl Try.call17 (by repeat first | exact .nil | exact .z | apply Pk.s | apply Tk.cons) rfl ?_
                    case ok189 => first | exact hU.ok | exact hD
                    rintro v L' ⟨rfl, rfl⟩
                    have hs := (hU.sec_barrier (i := i) hi0 (by omega)).trans hs
                    have hU := hU.barrier_up
                    refine ynil' (kbn (kthn (hK33 _ _ ?_)))
                    clear hK33
                    refine creg ?_
                    refine y (ev_move rfl) rfl ?_
                    refine y (ev_add rfl rfl) rfl ?_
                    rw [show IntKind.i64.wrap ((k:Int) + 1) = ((k+1 : Nat) : Int) by rw [wr (by omega) (by omega)]; rfl]
                    refine y (ev_assign rfl) rfl ?_
                    refine ynil' (kthn ?_)
                    first
                      | (exfalso; omega; done)
                      | exact hL2 (k + 1, _) ⟨hU, hs, by dsimp only; omega, by dsimp only; omega⟩ (by dsimp only; omega) _ _ (by repeat first | exact sub_nil | refine sub_cons rfl ?_ | refine sub_cons' rfl (by simp) ?_) (by repeat first | exact .refl | exact .nil | exact .z | apply Pk.s | refine Ge.e ?_ | apply Ge.pick | apply Ge.drop)
                  · (try simp only [decide_eq_true_eq, beq_iff_eq, beq_eq_false_iff_ne, decide_eq_decide, decide_eq_false_iff_not, Bool.not_eq_true', Bool.not_eq_false', Bool.not_eq_true, Bool.not_eq_false, Bool.not_not, ne_eq, Option.isNone_some, Option.isSome_some, Option.isNone_none, Option.isSome_none] at h187)
                    refine cskip' (kbn (kthn (hK33 _ _ ?_)))
                    clear hK33
                    refine creg ?_
                    refine y (ev_move rfl) rfl ?_
                    refine y (ev_add rfl rfl) rfl ?_
                    rw [show IntKind.i64.wrap ((k:Int) + 1) = ((k+1 : Nat) : Int) by rw [wr (by omega) (by omega)]; rfl]
                    refine y (ev_assign rfl) rfl ?_
                    refine ynil' (kthn ?_)
                    first
                      | (exfalso; omega; done)
                      | exact hL2 (k + 1, _) ⟨hU, hs, by dsimp only; omega, by dsimp only; omega⟩ (by dsimp only; omega) _ _ (by repeat first | exact sub_nil | refine sub_cons rfl ?_ | refine sub_cons' rfl (by simp) ?_) (by repeat first | exact .refl | exact .nil | exact .z | apply Pk.s | refine Ge.e ?_ | apply Ge.pick | apply Ge.drop)
              · (try simp only [decide_eq_true_eq, beq_iff_eq, beq_eq_false_iff_ne, decide_eq_decide, decide_eq_false_iff_not, Bool.not_eq_true', Bool.not_eq_false', Bool.not_eq_true, Bool.not_eq_false, Bool.not_not, ne_eq, Option.isNone_some, Option.isSome_some, Option.isNone_none, Option.isSome_none] at h145)
                refine yg0 rfl rfl rfl rfl ?_
                refine yg0 rfl rfl rfl rfl ?_
                refine yg0 rfl rfl rfl rfl ?_
                refine yg0 rfl rfl rfl rfl ?_
                refine yg0 rfl rfl rfl rfl ?_
                refine yg0 rfl rfl rfl rfl ?_
                refine y (ev_pick0 rfl rfl) rfl ?_
                refine ynil' (kthn (hK35 _ _ ?_))
                clear hK35
                refine ccond0 rfl ?_
                refine cskip' (kthn (hK34 _ _ ?_))
                clear hK34
                refine cseq ?_; intro K38 hK38
                refine creg ?_
                refine y (ev_move rfl) rfl ?_
                refine y (ev_move rfl) rfl ?_
                first
                  | refine y (ev_ixAddr rfl rfl Try.underlying22 Try.sizeOf30 (by omega) (by omega)) rfl ?_
                  | refine y (ev_ixV (by assumption) rfl rfl Try.underlying22 Try.sizeOf30 (by omega) (by omega)) rfl ?_
                refine y (ev_fieldAddr 0 rfl Try.underlying30 rfl Try.sizeOf3) rfl ?_
                refine y (ev_loadV (k * 4) hm (by repeat first | exact .refl | exact .nil | exact .z | apply Pk.s | refine Ge.e ?_ | apply Ge.pick | apply Ge.drop) rfl Try.isAgg3 (by simp) hc0) rfl ?_
                refine y (ev_eql rfl rfl) rfl ?_
                refine ynil' (kthn (hK38 _ _ ?_))
                clear hK38
                refine ccond rfl (fun h203 => ?_) (fun h203 => ?_)
                · (try simp only [decide_eq_true_eq, beq_iff_eq, beq_eq_false_iff_ne, decide_eq_decide, decide_eq_false_iff_not, Bool.not_eq_true', Bool.not_eq_false', Bool.not_eq_true, Bool.not_eq_false, Bool.not_not, ne_eq, Option.isNone_some, Option.isSome_some, Option.isNone_none, Option.isSome_none] at h203)
                  refine creg ?_
                  refine y (ev_move rfl) rfl ?_
                  refine ycall (secBarrier ?ok205) rfl Try.call17 (by repeat first | exact .nil | exact .z | apply Pk.s | apply Tk.cons) rfl ?_
                  case ok205 => first | exact hU.ok | exact hD
                  rintro v L' ⟨rfl, rfl⟩
                  have hs := (hU.sec_barrier (i := i) hi0 (by omega)).trans hs
                  have hU := hU.barrier_up
                  refine ynil' (kbn (kthn (hK33 _ _ ?_)))
                  clear hK33
                  refine creg ?_
                  refine y (ev_move rfl) rfl ?_
                  refine y (ev_add rfl rfl) rfl ?_
                  rw [show IntKind.i64.wrap ((k:Int) + 1) = ((k+1 : Nat) : Int) by rw [wr (by omega) (by omega)]; rfl]
                  refine y (ev_assign rfl) rfl ?_
                  refine ynil' (kthn ?_)
                  first
                    | (exfalso; omega; done)
                    | exact hL2 (k + 1, _) ⟨hU, hs, by dsimp only; omega, by dsimp only; omega⟩ (by dsimp only; omega) _ _ (by repeat first | exact sub_nil | refine sub_cons rfl ?_ | refine sub_cons' rfl (by simp) ?_) (by repeat first | exact .refl | exact .nil | exact .z | apply Pk.s | refine Ge.e ?_ | apply Ge.pick | apply Ge.drop)
                · (try simp only [decide_eq_true_eq, beq_iff_eq, beq_eq_false_iff_ne, decide_eq_decide, decide_eq_false_iff_not, Bool.not_eq_true', Bool.not_eq_false', Bool.not_eq_true, Bool.not_eq_false, Bool.not_not, ne_eq, Option.isNone_some, Option.isSome_some, Option.isNone_none, Option.isSome_none] at h203)
                  refine cskip' (kbn (kthn (hK33 _ _ ?_)))
                  clear hK33
                  refine creg ?_
                  refine y (ev_move rfl) rfl ?_
                  refine y (ev_add rfl rfl) rfl ?_
                  rw [show IntKind.i64.wrap ((k:Int) + 1) = ((k+1 : Nat) : Int) by rw [wr (by omega) (by omega)]; rfl]
                  refine y (ev_assign rfl) rfl ?_
                  refine ynil' (kthn ?_)
                  first
                    | (exfalso; omega; done)
                    | exact hL2 (k + 1, _) ⟨hU, hs, by dsimp only; omega, by dsimp only; omega⟩ (by dsimp only; omega) _ _ (by repeat first | exact sub_nil | refine sub_cons rfl ?_ | refine sub_cons' rfl (by simp) ?_) (by repeat first | exact .refl | exact .nil | exact .z | apply Pk.s | refine Ge.e ?_ | apply Ge.pick | apply Ge.drop)
            · (try simp only [decide_eq_true_eq, beq_iff_eq, beq_eq_false_iff_ne, decide_eq_decide, decide_eq_false_iff_not, Bool.not_eq_true', Bool.not_eq_false', Bool.not_eq_true, Bool.not_eq_false, Bool.not_not, ne_eq, Option.isNone_some, Option.isSome_some, Option.isNone_none, Option.isSome_none] at h136)
              refine cexit (kthx (kthx (kbx (kthn ?_))))
              exact ksub (by repeat first | exact sub_nil | refine sub_cons rfl ?_ | refine sub_cons' rfl (by simp) ?_) (by repeat first | exact .refl | exact .nil | exact .z | apply Pk.s | refine Ge.e ?_ | apply Ge.pick | apply Ge.drop) (hJ2 ⟨k, D⟩ ⟨hI2o, by first | trivial | omega⟩)
          · (try simp only [decide_eq_true_eq, beq_iff_eq, beq_eq_false_iff_ne, decide_eq_decide, decide_eq_false_iff_not, Bool.not_eq_true', Bool.not_eq_false', Bool.not_eq_true, Bool.not_eq_false, Bool.not_not, ne_eq, Option.isNone_some, Option.isSome_some, Option.isNone_none, Option.isSome_none] at h132)
            refine yg0 rfl rfl rfl rfl ?_
            refine yg0 rfl rfl rfl rfl ?_
            refine y (ev_pick0 rfl rfl) rfl ?_
            refine ynil' (kthn (hK32 _ _ ?_))
            clear hK32
            refine ccond0 rfl ?_
            refine cexit (kthx (kthx (kbx (kthn ?_))))
            exact ksub (by repeat first | exact sub_nil | refine sub_cons rfl ?_ | refine sub_cons' rfl (by simp) ?_) (by repeat first | exact .refl | exact .nil | exact .z | apply Pk.s | refine Ge.e ?_ | apply Ge.pick | apply Ge.drop) (hJ2 ⟨k, D⟩ ⟨hI2o, by first | trivial | omega⟩)
      clear hK8
      refine cblock ?_
      refine cloop (A := Nat × Dev) (fun x => [(12, i64 x.1), (11, dp q), (1, lv), (0, i64 n), (2, i64 i), (3, bv), (4, mv)]) (fun x => [dev q x.2] ++ R) (fun x => x.2.ok ∧ x.2.l.length = n.toNat ∧ x.1 ≤ acts.length ∧ x.1 ≤ 80) (fun x => acts.length - x.1) ((0, Dev.new n.toNat)) ?_ (by repeat first | exact sub_nil | refine sub_cons rfl ?_ | refine sub_cons' rfl (by simp) ?_) (by repeat first | exact .refl | exact .nil | exact .z | apply Pk.s | refine Ge.e ?_ | apply Ge.pick | apply Ge.drop) ?_
      · exact ⟨Dev.new_ok (by omega), by simp [Dev.new], Nat.zero_le _, Nat.zero_le _⟩
      rintro ⟨k, D⟩ hI1 KL1 hL1
      have hI1o := hI1
      obtain ⟨hD, hn1, hk1, hk2⟩ := hI1; dsimp only at hD hn1 hk1 hk2 ⊢
      refine cseq ?_; intro K39 hK39
      refine cseq ?_; intro K40 hK40
      refine creg ?_
      refine y (ev_move rfl) rfl ?_
      refine y (ev_move rfl) rfl ?_
      first
        | refine y (ev_len rfl Try.underlying22) rfl ?_
        | refine y (ev_lenSv rfl Try.underlying22 (by assumption)) rfl ?_
        | refine y (ev_lenV rfl Try.underlying22 (RdV.lenVal (by assumption))) rfl ?_
        | refine y (ev_lenV rfl Try.underlying22 (RdB.lenVal (by assumption))) rfl ?_
      refine y (ev_lss rfl rfl) rfl ?_
      refine y (ev_move rfl) rfl ?_
      refine ysplit 28 rfl (fun h218 => ?_) (fun h218 => ?_)
      · (try simp only [decide_eq_true_eq, beq_iff_eq, beq_eq_false_iff_ne, decide_eq_decide, decide_eq_false_iff_not, Bool.not_eq_true', Bool.not_eq_false', Bool.not_eq_true, Bool.not_eq_false, Bool.not_not, ne_eq, Option.isNone_some, Option.isSome_some, Option.isNone_none, Option.isSome_none] at h218)
        refine yg1 rfl rfl ?_
        refine y (ev_move rfl) rfl ?_
        refine yg1 rfl rfl ?_
        refine y (ev_lss rfl rfl) rfl ?_
        refine y (ev_pick1 rfl rfl) rfl ?_
        refine ynil' (kthn (hK40 _ _ ?_))
        clear hK40
        refine ccond rfl (fun h222 => ?_) (fun h222 => ?_)
        · (try simp only [decide_eq_true_eq, beq_iff_eq, beq_eq_false_iff_ne, decide_eq_decide, decide_eq_false_iff_not, Bool.not_eq_true', Bool.not_eq_false', Bool.not_eq_true, Bool.not_eq_false, Bool.not_not, ne_eq, Option.isNone_some, Option.isSome_some, Option.isNone_none, Option.isSome_none] at h222)
          obtain ⟨a, hka⟩ : ∃ a, acts[k]? = some a := ⟨_, List.getElem?_eq_getElem (by omega)⟩
          have hact := haa a (List.mem_of_getElem? hka)
          refine cskip' (kthn (hK39 _ _ ?_))
          clear hK39
          refine cseq ?_; intro K41 hK41
          refine cblock ?_
          refine cseq ?_; intro K42 hK42
          refine cseq ?_; intro K43 hK43
          refine creg ?_
          refine y (ev_move rfl) rfl ?_
          refine y (ev_move rfl) rfl ?_
          first
            | refine y (ev_ixAddr rfl rfl Try.underlying22 Try.sizeOf30 (by omega) (by omega)) rfl ?_
            | refine y (ev_ixV (by assumption) rfl rfl Try.underlying22 Try.sizeOf30 (by omega) (by omega)) rfl ?_
          refine y (ev_loadNV (us := a.cells) (k * 4) hl (by repeat first | exact .refl | exact .nil | exact .z | apply Pk.s | refine Ge.e ?_ | apply Ge.pick | apply Ge.drop) rfl Try.isAgg30 Try.sizeOf30 (by simp) (actsV_get _ _ _ hka) rfl) rfl ?_
          refine ycall (large ?act227) rfl Try.call21 (by repeat first | exact .nil | exact .z | apply Pk.s | apply Tk.cons) rfl ?_
          case act227 => exact hact.mono (by repeat first | exact .refl | exact .nil | exact .z | apply Pk.s | refine Ge.e ?_ | apply Ge.pick | apply Ge.drop)
          rintro v L' ⟨rfl, rfl⟩
          refine ynil' (kthn (hK43 _ _ ?_))
          clear hK43
          refine ccond rfl (fun h228 => ?_) (fun h228 => ?_)
          · (try simp only [decide_eq_true_eq, beq_iff_eq, beq_eq_false_iff_ne, decide_eq_decide, decide_eq_false_iff_not, Bool.not_eq_true', Bool.not_eq_false', Bool.not_eq_true, Bool.not_eq_false, Bool.not_not, ne_eq, Option.isNone_some, Option.isSome_some, Option.isNone_none, Option.isSome_none] at h228)
            refine cseq ?_; intro K44 hK44
            refine creg ?_
            refine y (ev_assign rfl) rfl ?_
            refine ynil' (kthn (hK44 _ _ ?_))
            clear hK44
            refine cret (kthr (kbr (kthr (kthr (kbr (kthr ?_))))))
            first
              | (exfalso; omega; done)
              | (refine kretv Try.results6 rfl (L1 := R) (by repeat first | exact .refl | exact .nil | exact .z | apply Pk.s | refine Ge.e ?_ | apply Ge.pick | apply Ge.drop) ?_
                 exact ⟨_, ⟨by first | rfl | (exfalso; omega; done) | (exfalso; simp_all; done) | (simp; omega) | simp_all, rfl⟩, by first | rfl | (exfalso; omega; done) | (exfalso; simp_all; done) | (simp; omega) | simp_all⟩)
          · (try simp only [decide_eq_true_eq, beq_iff_eq, beq_eq_false_iff_ne, decide_eq_decide, decide_eq_false_iff_not, Bool.not_eq_true', Bool.not_eq_false', Bool.not_eq_true, Bool.not_eq_false, Bool.not_not, ne_eq, Option.isNone_some, Option.isSome_some, Option.isNone_none, Option.isSome_none] at h228)
            refine cskip' (kthn (hK42 _ _ ?_))
            clear hK42
            refine creg ?_
            refine y (ev_move rfl) rfl ?_
            refine y (ev_move rfl) rfl ?_
            refine y (ev_move rfl) rfl ?_
            first
              | refine y (ev_ixAddr rfl rfl Try.underlying22 Try.sizeOf30 (by omega) (by omega)) rfl ?_
              | refine y (ev_ixV (by assumption) rfl rfl Try.underlying22 Try.sizeOf30 (by omega) (by omega)) rfl ?_
            refine y (ev_loadNV (us := a.cells) (k * 4) hl (by repeat first | exact .refl | exact .nil | exact .z | apply Pk.s | refine Ge.e ?_ | apply Ge.pick | apply Ge.drop) rfl Try.isAgg30 Try.sizeOf30 (by simp) (actsV_get _ _ _ hka) rfl) rfl ?_
            refine ycall (play ?ok235 ?act235) rfl Try.call36 (by repeat first | exact .nil | exact .z | apply Pk.s | apply Tk.cons) rfl ?_
            case ok235 => first | exact hU.ok | exact hD
            case act235 => exact hact.mono (by repeat first | exact .refl | exact .nil | exact .z | apply Pk.s | refine Ge.e ?_ | apply Ge.pick | apply Ge.drop)
            rintro v L' ⟨rfl, rfl⟩
            refine ynil' (kbn (kthn (hK41 _ _ ?_)))
            clear hK41
            refine creg ?_
            refine y (ev_move rfl) rfl ?_
            refine y (ev_add rfl rfl) rfl ?_
            rw [show IntKind.i64.wrap ((k:Int) + 1) = ((k+1 : Nat) : Int) by rw [wr (by omega) (by omega)]; rfl]
            refine y (ev_assign rfl) rfl ?_
            refine ynil' (kthn ?_)
            exact hL1 ((k + 1, D.play a)) (⟨Dev.play_ok hD hact.int, by rw [play_len]; exact hn1, by dsimp only; omega, by dsimp only; omega⟩) (by dsimp only; omega) _ _ (by repeat first | exact sub_nil | refine sub_cons rfl ?_ | refine sub_cons' rfl (by simp) ?_) (by repeat first | exact .refl | exact .nil | exact .z | apply Pk.s | refine Ge.e ?_ | apply Ge.pick | apply Ge.drop)
        · (try simp only [decide_eq_true_eq, beq_iff_eq, beq_eq_false_iff_ne, decide_eq_decide, decide_eq_false_iff_not, Bool.not_eq_true', Bool.not_eq_false', Bool.not_eq_true, Bool.not_eq_false, Bool.not_not, ne_eq, Option.isNone_some, Option.isSome_some, Option.isNone_none, Option.isSome_none] at h222)
          refine cexit (kthx (kthx (kbx (kthn ?_))))
          exact ksub (by repeat first | exact sub_nil | refine sub_cons rfl ?_ | refine sub_cons' rfl (by simp) ?_) (by repeat first | exact .refl | exact .nil | exact .z | apply Pk.s | refine Ge.e ?_ | apply Ge.pick | apply Ge.drop) (hJ1 ⟨k, D⟩ ⟨hI1o, by first | trivial | omega⟩)
      · (try simp only [decide_eq_true_eq, beq_iff_eq, beq_eq_false_iff_ne, decide_eq_decide, decide_eq_false_iff_not, Bool.not_eq_true', Bool.not_eq_false', Bool.not_eq_true, Bool.not_eq_false, Bool.not_not, ne_eq, Option.isNone_some, Option.isSome_some, Option.isNone_none, Option.isSome_none] at h218)
        refine yg0 rfl rfl rfl rfl ?_
        refine yg0 rfl rfl rfl rfl ?_
        refine y (ev_pick0 rfl rfl) rfl ?_
        refine ynil' (kthn (hK40 _ _ ?_))
        clear hK40
        refine ccond0 rfl ?_
        refine cexit (kthx (kthx (kbx (kthn ?_))))
        exact ksub (by repeat first | exact sub_nil | refine sub_cons rfl ?_ | refine sub_cons' rfl (by simp) ?_) (by repeat first | exact .refl | exact .nil | exact .z | apply Pk.s | refine Ge.e ?_ | apply Ge.pick | apply Ge.drop) (hJ1 ⟨k, D⟩ ⟨hI1o, by first | trivial | omega⟩)
    · skip
      first | (refine ycall (secNewI hn) rfl Try.call15 (by repeat first | exact .nil | exact .z | apply Pk.s | apply Tk.cons) rfl ?_; rintro v L' ⟨q, rfl, rfl⟩) | (refine ycall (secNewNil (by omega)) rfl Try.call15 (by repeat first | exact .nil | exact .z | apply Pk.s | apply Tk.cons) rfl ?_; rintro v L' ⟨rfl, rfl⟩)
      refine y (ev_assign rfl) rfl ?_
      refine ynil' (kthn (hK5 _ _ ?_))
      clear hK5
      refine cseq ?_; intro K45 hK45
      refine cseq ?_; intro K46 hK46
      refine creg ?_
      refine y (ev_move rfl) rfl ?_
      refine y (ev_eqlPnil rfl rfl Try.underlying24) rfl ?_
      refine ynil' (kthn (hK46 _ _ ?_))
      clear hK46
      refine ccond1 rfl ?_
      refine cseq ?_; intro K47 hK47
      refine creg ?_
      refine y (ev_assign rfl) rfl ?_
      refine ynil' (kthn (hK47 _ _ ?_))
      clear hK47
      refine cret (kthr ?_)
      first
        | (exfalso; omega; done)
        | (refine kretv Try.results6 rfl (L1 := R) (by repeat first | exact .refl | exact .nil | exact .z | apply Pk.s | refine Ge.e ?_ | apply Ge.pick | apply Ge.drop) ?_
           exact ⟨_, ⟨by first | rfl | (exfalso; omega; done) | (exfalso; simp_all; done) | (simp; omega) | simp_all, rfl⟩, by first | rfl | (exfalso; omega; done) | (exfalso; simp_all; done) | (simp; omega) | simp_all⟩)
end W
end Go.Proofs
