/- A part of the proof: contracts and plain lemmas, each without conditions beyond those that it names. -/
import Derived.Test.YtnedokioglfipaaS6
import Derived.Test.YtnedokioglfipaaSecC
set_option linter.unusedVariables false
set_option linter.unusedSimpArgs false
set_option linter.constructorNameAsVariable false
namespace Go.Proofs
open Go Go.Sl
namespace W
set_option linter.unusedVariables false
theorem secNewI [Env] {R : List Seg} {n : Int} (hn : 0 ≤ n ∧ n ≤ 512) : Con Try.prog 15 [i64 n] [] R (fun v L' => ∃ q, v = dp q ∧ L' = [dev q (Dev.new n.toNat)]) := by
  have h := secNew (R := R) (n := n.toNat) (by omega)
  rw [show ((n.toNat : Nat) : Int) = n by omega] at h
  exact h

theorem lawAlone [Env] {R : List Seg} {n i : Int} {lv bv mv : Value} {acts more : List ActM} {bs : Bytes} (hl : RdV R lv acts.length (actsV acts)) (haa : ∀ a ∈ acts, a.ok R)
    (hb : RdB R bv bs) (hm : RdV R mv more.length (actsV more)) (hma : ∀ a ∈ more, a.ok R) :
    Con Try.prog 6 [i64 n, lv, i64 i, bv, mv] [] R (Is (.bool true) []) := by
  refine con_enter Try.func6 Try.ntmps6 rfl rfl ?_
  refine cseq ?_; intro K1 hK1
  refine creg ?_
  refine y (ev_assign rfl) rfl ?_
  refine ynil' (kthn (hK1 _ _ ?_))
  clear hK1
  refine cseq ?_; intro K2 hK2
  refine cseq ?_; intro K3 hK3
  refine creg ?_
  refine ycall (awake) rfl Try.call14 (by repeat first | exact .nil | exact .z | apply Pk.s | apply Tk.cons) rfl ?_
  rintro v L' ⟨rfl, rfl⟩
  refine y (ev_not rfl) rfl ?_
  refine ynil' (kthn (hK3 _ _ ?_))
  clear hK3
  refine ccond rfl (fun h4 => ?_) (fun h4 => ?_)
  · (try simp only [decide_eq_true_eq, beq_iff_eq, beq_eq_false_iff_ne, decide_eq_decide, decide_eq_false_iff_not, Bool.not_eq_true', Bool.not_eq_false', Bool.not_eq_true, Bool.not_eq_false, Bool.not_not, ne_eq, Option.isNone_some, Option.isSome_some, Option.isNone_none, Option.isSome_none] at h4)
    refine cseq ?_; intro K4 hK4
    refine creg ?_
    refine y (ev_assign rfl) rfl ?_
    refine ynil' (kthn (hK4 _ _ ?_))
    clear hK4
    refine cret (kthr ?_)
    first
      | (exfalso; omega; done)
      | (refine kretv Try.results6 rfl (L1 := R) (by repeat first | exact .refl | exact .nil | exact .z | apply Pk.s | apply Ge.pick | apply Ge.drop) ?_
         exact ⟨_, ⟨by first | rfl | (exfalso; omega; done) | (exfalso; simp_all; done) | (simp; omega) | simp_all, rfl⟩, by first | rfl | (exfalso; omega; done) | (exfalso; simp_all; done) | (simp; omega) | simp_all⟩)
  · (try simp only [decide_eq_true_eq, beq_iff_eq, beq_eq_false_iff_ne, decide_eq_decide, decide_eq_false_iff_not, Bool.not_eq_true', Bool.not_eq_false', Bool.not_eq_true, Bool.not_eq_false, Bool.not_not, ne_eq, Option.isNone_some, Option.isSome_some, Option.isNone_none, Option.isSome_none] at h4)
    refine cskip' (kthn (hK2 _ _ ?_))
    clear hK2
    refine cseq ?_; intro K5 hK5
    refine creg ?_
    refine y (ev_move rfl) rfl ?_
    by_cases hn : 0 ≤ n ∧ n ≤ 512
    · skip
      first | (refine ycall (secNewI hn) rfl Try.call15 (by repeat first | exact .nil | exact .z | apply Pk.s | apply Tk.cons) rfl ?_; rintro v L' ⟨q, rfl, rfl⟩) | (refine ycall (secNewNil (by omega)) rfl Try.call15 (by repeat first | exact .nil | exact .z | apply Pk.s | apply Tk.cons) rfl ?_; rintro v L' ⟨rfl, rfl⟩)
      refine y (ev_assign rfl) rfl ?_
      refine ynil' (kthn (hK5 _ _ ?_))
      clear hK5
      refine cseq ?_; intro K6 hK6
      refine cseq ?_; intro K7 hK7
      refine creg ?_
      refine y (ev_move rfl) rfl ?_
      refine y (ev_eqlPnil rfl rfl Try.underlying24) rfl ?_
      refine ynil' (kthn (hK7 _ _ ?_))
      clear hK7
      refine ccond0 rfl ?_
      refine cskip' (kthn (hK6 _ _ ?_))
      clear hK6
      refine cseq ?_; intro K8 hK8
      refine cseq ?_; intro K9 hK9
      refine creg ?_
      refine y (ev_assign rfl) rfl ?_
      refine ynil' (kthn (hK9 _ _ ?_))
      clear hK9
      refine cblock ?_
      refine cloop (A := Nat × Dev) (fun x => [(12, i64 x.1), (11, dp q), (1, lv), (0, i64 n), (2, i64 i), (3, bv), (4, mv)]) (fun x => [dev q x.2] ++ R) (fun x => x.2.ok ∧ x.2.l.length = n.toNat ∧ x.1 ≤ acts.length ∧ x.1 ≤ 80) (fun x => acts.length - x.1) ((0, Dev.new n.toNat)) ?_ (by repeat first | exact sub_nil | refine sub_cons rfl ?_ | refine sub_cons' rfl (by simp) ?_) (by repeat first | exact .refl | exact .nil | exact .z | apply Pk.s | apply Ge.pick | apply Ge.drop) ?_
      · exact ⟨Dev.new_ok (by omega), by simp [Dev.new], Nat.zero_le _, Nat.zero_le _⟩
      rintro ⟨k, D⟩ hI1 KL1 hL1
      have hI1o := hI1
      obtain ⟨hD, hn1, hk1, hk2⟩ := hI1; dsimp only at hD hn1 hk1 hk2 ⊢
      refine cseq ?_; intro K10 hK10
      refine cseq ?_; intro K11 hK11
      refine creg ?_
      refine y (ev_move rfl) rfl ?_
      refine y (ev_move rfl) rfl ?_
      first
        | refine y (ev_len rfl Try.underlying22) rfl ?_
        | refine y (ev_lenSv rfl Try.underlying22 (by assumption)) rfl ?_
        | refine y (ev_lenV rfl Try.underlying22 (RdV.lenVal (by assumption))) rfl ?_
        | refine y (ev_lenV rfl Try.underlying22 (RdB.lenVal (by assumption))) rfl ?_
      refine y (ev_lss rfl rfl) rfl ?_
      refine y (ev_move rfl) rfl ?_
      refine ysplit 28 rfl (fun h17 => ?_) (fun h17 => ?_)
      · (try simp only [decide_eq_true_eq, beq_iff_eq, beq_eq_false_iff_ne, decide_eq_decide, decide_eq_false_iff_not, Bool.not_eq_true', Bool.not_eq_false', Bool.not_eq_true, Bool.not_eq_false, Bool.not_not, ne_eq, Option.isNone_some, Option.isSome_some, Option.isNone_none, Option.isSome_none] at h17)
        refine yg1 rfl rfl ?_
        refine y (ev_move rfl) rfl ?_
        refine yg1 rfl rfl ?_
        refine y (ev_lss rfl rfl) rfl ?_
        refine y (ev_pick1 rfl rfl) rfl ?_
        refine ynil' (kthn (hK11 _ _ ?_))
        clear hK11
        refine ccond rfl (fun h21 => ?_) (fun h21 => ?_)
        · (try simp only [decide_eq_true_eq, beq_iff_eq, beq_eq_false_iff_ne, decide_eq_decide, decide_eq_false_iff_not, Bool.not_eq_true', Bool.not_eq_false', Bool.not_eq_true, Bool.not_eq_false, Bool.not_not, ne_eq, Option.isNone_some, Option.isSome_some, Option.isNone_none, Option.isSome_none] at h21)
          obtain ⟨a, hka⟩ : ∃ a, acts[k]? = some a := ⟨_, List.getElem?_eq_getElem (by omega)⟩
          have hact := haa a (List.mem_of_getElem? hka)
          refine cskip' (kthn (hK10 _ _ ?_))
          clear hK10
          refine cseq ?_; intro K12 hK12
          refine cblock ?_
          refine cseq ?_; intro K13 hK13
          refine cseq ?_; intro K14 hK14
          refine creg ?_
          refine y (ev_move rfl) rfl ?_
          refine y (ev_move rfl) rfl ?_
          first
            | refine y (ev_ixAddr rfl rfl Try.underlying22 Try.sizeOf30 (by omega) (by omega)) rfl ?_
            | refine y (ev_ixV (by assumption) rfl rfl Try.underlying22 Try.sizeOf30 (by omega) (by omega)) rfl ?_
          refine y (ev_loadNV (us := a.cells) (k * 4) hl (by repeat first | exact .refl | exact .nil | exact .z | apply Pk.s | apply Ge.pick | apply Ge.drop) rfl Try.isAgg30 Try.sizeOf30 (by simp) (actsV_get _ _ _ hka) rfl) rfl ?_
          refine ycall (large ?act26) rfl Try.call21 (by repeat first | exact .nil | exact .z | apply Pk.s | apply Tk.cons) rfl ?_
          case act26 => exact hact.mono (by repeat first | exact .refl | exact .nil | exact .z | apply Pk.s | apply Ge.pick | apply Ge.drop)
          rintro v L' ⟨rfl, rfl⟩
          refine ynil' (kthn (hK14 _ _ ?_))
          clear hK14
          refine ccond rfl (fun h27 => ?_) (fun h27 => ?_)
          · (try simp only [decide_eq_true_eq, beq_iff_eq, beq_eq_false_iff_ne, decide_eq_decide, decide_eq_false_iff_not, Bool.not_eq_true', Bool.not_eq_false', Bool.not_eq_true, Bool.not_eq_false, Bool.not_not, ne_eq, Option.isNone_some, Option.isSome_some, Option.isNone_none, Option.isSome_none] at h27)
            refine cseq ?_; intro K15 hK15
            refine creg ?_
            refine y (ev_assign rfl) rfl ?_
            refine ynil' (kthn (hK15 _ _ ?_))
            clear hK15
            refine cret (kthr (kbr (kthr (kthr (kbr (kthr ?_))))))
            first
              | (exfalso; omega; done)
              | (refine kretv Try.results6 rfl (L1 := R) (by repeat first | exact .refl | exact .nil | exact .z | apply Pk.s | apply Ge.pick | apply Ge.drop) ?_
                 exact ⟨_, ⟨by first | rfl | (exfalso; omega; done) | (exfalso; simp_all; done) | (simp; omega) | simp_all, rfl⟩, by first | rfl | (exfalso; omega; done) | (exfalso; simp_all; done) | (simp; omega) | simp_all⟩)
          · (try simp only [decide_eq_true_eq, beq_iff_eq, beq_eq_false_iff_ne, decide_eq_decide, decide_eq_false_iff_not, Bool.not_eq_true', Bool.not_eq_false', Bool.not_eq_true, Bool.not_eq_false, Bool.not_not, ne_eq, Option.isNone_some, Option.isSome_some, Option.isNone_none, Option.isSome_none] at h27)
            refine cskip' (kthn (hK13 _ _ ?_))
            clear hK13
            refine creg ?_
            refine y (ev_move rfl) rfl ?_
            refine y (ev_move rfl) rfl ?_
            refine y (ev_move rfl) rfl ?_
            first
              | refine y (ev_ixAddr rfl rfl Try.underlying22 Try.sizeOf30 (by omega) (by omega)) rfl ?_
              | refine y (ev_ixV (by assumption) rfl rfl Try.underlying22 Try.sizeOf30 (by omega) (by omega)) rfl ?_
            refine y (ev_loadNV (us := a.cells) (k * 4) hl (by repeat first | exact .refl | exact .nil | exact .z | apply Pk.s | apply Ge.pick | apply Ge.drop) rfl Try.isAgg30 Try.sizeOf30 (by simp) (actsV_get _ _ _ hka) rfl) rfl ?_
            refine ycall (play ?ok34 ?act34) rfl Try.call36 (by repeat first | exact .nil | exact .z | apply Pk.s | apply Tk.cons) rfl ?_
            case ok34 => first | exact hU.ok | exact hD
            case act34 => exact hact.mono (by repeat first | exact .refl | exact .nil | exact .z | apply Pk.s | apply Ge.pick | apply Ge.drop)
            rintro v L' ⟨rfl, rfl⟩
            refine ynil' (kbn (kthn (hK12 _ _ ?_)))
            clear hK12
            refine creg ?_
            refine y (ev_move rfl) rfl ?_
            refine y (ev_add rfl rfl) rfl ?_
            rw [show IntKind.i64.wrap ((k:Int) + 1) = ((k+1 : Nat) : Int) by rw [wr (by omega) (by omega)]; rfl]
            refine y (ev_assign rfl) rfl ?_
            refine ynil' (kthn ?_)
            exact hL1 ((k + 1, D.play a)) (⟨Dev.play_ok hD hact.int, by rw [play_len]; exact hn1, by dsimp only; omega, by dsimp only; omega⟩) (by dsimp only; omega) _ _ (by repeat first | exact sub_nil | refine sub_cons rfl ?_ | refine sub_cons' rfl (by simp) ?_) (by repeat first | exact .refl | exact .nil | exact .z | apply Pk.s | apply Ge.pick | apply Ge.drop)
        · (try simp only [decide_eq_true_eq, beq_iff_eq, beq_eq_false_iff_ne, decide_eq_decide, decide_eq_false_iff_not, Bool.not_eq_true', Bool.not_eq_false', Bool.not_eq_true, Bool.not_eq_false, Bool.not_not, ne_eq, Option.isNone_some, Option.isSome_some, Option.isNone_none, Option.isSome_none] at h21)
          refine cexit (kthx (kthx (kbx (kthn (hK8 _ _ ?_)))))
          clear hK8
          refine cseq ?_; intro K16 hK16
          refine creg ?_
          refine y (ev_move rfl) rfl ?_
          refine ycall (secCrash (ks := []) ?ok39 ?ks39) rfl Try.call25 (by repeat first | exact .nil | exact .z | apply Pk.s | apply Tk.cons) rfl ?_
          case ok39 => first | exact hU.ok | exact hD
          case ks39 => exact rdV_nil
          rintro v L' ⟨rfl, rfl⟩
          have hU := crash_up hD []
          rw [hn1] at hU
          generalize D.crash [] = D1 at hU ⊢
          refine ynil' (kthn (hK16 _ _ ?_))
          clear hK16
          refine cseq ?_; intro K17 hK17
          refine creg ?_
          refine y (ev_move rfl) rfl ?_
          refine y (ev_move rfl) rfl ?_
          refine y (ev_move rfl) rfl ?_
          refine ycall (secWrite (bs := bs) ?ok43 ?rd43) rfl Try.call18 (by repeat first | exact .nil | exact .z | apply Pk.s | apply Tk.cons) rfl ?_
          case ok43 => first | exact hU.ok | exact hD
          case rd43 => first | exact hact.bytes.mono (by repeat first | exact .refl | exact .nil | exact .z | apply Pk.s | apply Ge.pick | apply Ge.drop) | exact hb.mono (by repeat first | exact .refl | exact .nil | exact .z | apply Pk.s | apply Ge.pick | apply Ge.drop)
          rintro v L' ⟨rfl, rfl⟩
          have hrr : ((D1.write i bs).1 = 2 ∧ (i < 0 ∨ n ≤ i)) ∨ ((D1.write i bs).1 = 3 ∧ (144 : Int) < bs.length) ∨ (D1.write i bs).1 = 0 := by
            have := hU.write i bs
            rw [this]; split
            · left; exact ⟨rfl, by omega⟩
            · split
              · right; left; exact ⟨rfl, by assumption⟩
              · right; right; rfl
          have hU2 := hU.write_up i bs
          have hsw := hU.sec_write_same (i := i) (bs := bs)
          refine y (ev_assign rfl) rfl ?_
          refine ynil' (kthn (hK17 _ _ ?_))
          clear hK17
          refine cseq ?_; intro K18 hK18
          refine cseq ?_; intro K19 hK19
          refine creg ?_
          refine y (ev_move rfl) rfl ?_
          refine y (ev_neq rfl rfl) rfl ?_
          refine ynil' (kthn (hK19 _ _ ?_))
          clear hK19
          refine ccond rfl (fun h47 => ?_) (fun h47 => ?_)
          · (try simp only [decide_eq_true_eq, beq_iff_eq, beq_eq_false_iff_ne, decide_eq_decide, decide_eq_false_iff_not, Bool.not_eq_true', Bool.not_eq_false', Bool.not_eq_true, Bool.not_eq_false, Bool.not_not, ne_eq, Option.isNone_some, Option.isSome_some, Option.isNone_none, Option.isSome_none] at h47)
            refine cseq ?_; intro K20 hK20
            refine creg ?_
            refine y (ev_move rfl) rfl ?_
            refine y (ev_eql rfl rfl) rfl ?_
            refine y (ev_move rfl) rfl ?_
            refine ysplit 55 rfl (fun h51 => ?_) (fun h51 => ?_)
            · (try simp only [decide_eq_true_eq, beq_iff_eq, beq_eq_false_iff_ne, decide_eq_decide, decide_eq_false_iff_not, Bool.not_eq_true', Bool.not_eq_false', Bool.not_eq_true, Bool.not_eq_false, Bool.not_not, ne_eq, Option.isNone_some, Option.isSome_some, Option.isNone_none, Option.isSome_none] at h51)
              refine yg1 rfl rfl ?_
              refine y (ev_move rfl) rfl ?_
              refine yg1 rfl rfl ?_
              refine y (ev_lss rfl rfl) rfl ?_
              refine yg1 rfl rfl ?_
              refine y (ev_move rfl) rfl ?_
              refine ysplit 58 rfl (fun h55 => ?_) (fun h55 => ?_)
              · (try simp only [decide_eq_true_eq, beq_iff_eq, beq_eq_false_iff_ne, decide_eq_decide, decide_eq_false_iff_not, Bool.not_eq_true', Bool.not_eq_false', Bool.not_eq_true, Bool.not_eq_false, Bool.not_not, ne_eq, Option.isNone_some, Option.isSome_some, Option.isNone_none, Option.isSome_none] at h55)
                refine yg0 rfl rfl rfl rfl ?_
                refine yg0 rfl rfl rfl rfl ?_
                refine yg0 rfl rfl rfl rfl ?_
                refine yg1 rfl rfl ?_
                refine y (ev_pick1 rfl rfl) rfl ?_
                refine y (ev_pick1 rfl rfl) rfl ?_
                refine y (ev_move rfl) rfl ?_
                refine yg0 rfl rfl rfl rfl ?_
                refine yg0 rfl rfl rfl rfl ?_
                refine yg0 rfl rfl rfl rfl ?_
                refine yg0u rfl rfl rfl ?_
                refine yg0u rfl rfl rfl ?_
                refine yg0u rfl rfl rfl ?_
                refine yg0 rfl rfl rfl rfl ?_
                refine y (ev_pick1 rfl rfl) rfl ?_
                refine y (ev_assign rfl) rfl ?_
                refine ynil' (kthn (hK20 _ _ ?_))
                clear hK20
                refine cret (kthr ?_)
                first
                  | (exfalso; omega; done)
                  | (refine kretv Try.results6 rfl (L1 := R) (by repeat first | exact .refl | exact .nil | exact .z | apply Pk.s | apply Ge.pick | apply Ge.drop) ?_
                     exact ⟨_, ⟨by first | rfl | (exfalso; omega; done) | (exfalso; simp_all; done) | (simp; omega) | simp_all, rfl⟩, by first | rfl | (exfalso; omega; done) | (exfalso; simp_all; done) | (simp; omega) | simp_all⟩)
              · (try simp only [decide_eq_true_eq, beq_iff_eq, beq_eq_false_iff_ne, decide_eq_decide, decide_eq_false_iff_not, Bool.not_eq_true', Bool.not_eq_false', Bool.not_eq_true, Bool.not_eq_false, Bool.not_not, ne_eq, Option.isNone_some, Option.isSome_some, Option.isNone_none, Option.isSome_none] at h55)
                refine yg1 rfl rfl ?_
                refine y (ev_move rfl) rfl ?_
                refine yg1 rfl rfl ?_
                refine y (ev_move rfl) rfl ?_
                refine yg1 rfl rfl ?_
                refine y (ev_geq rfl rfl) rfl ?_
                refine yg1 rfl rfl ?_
                refine y (ev_pick0 rfl rfl) rfl ?_
                refine y (ev_pick1 rfl rfl) rfl ?_
                refine y (ev_move rfl) rfl ?_
                refine ysplit 64 rfl (fun h67 => ?_) (fun h67 => ?_)
                · (try simp only [decide_eq_true_eq, beq_iff_eq, beq_eq_false_iff_ne, decide_eq_decide, decide_eq_false_iff_not, Bool.not_eq_true', Bool.not_eq_false', Bool.not_eq_true, Bool.not_eq_false, Bool.not_not, ne_eq, Option.isNone_some, Option.isSome_some, Option.isNone_none, Option.isSome_none] at h67)
                  refine yg0 rfl rfl rfl rfl ?_
                  refine yg0 rfl rfl rfl rfl ?_
                  refine yg0 rfl rfl rfl rfl ?_
                  refine yg0u rfl rfl rfl ?_
                  refine yg0u rfl rfl rfl ?_
                  refine yg0u rfl rfl rfl ?_
                  refine yg0 rfl rfl rfl rfl ?_
                  refine y (ev_pick1 rfl rfl) rfl ?_
                  refine y (ev_assign rfl) rfl ?_
                  refine ynil' (kthn (hK20 _ _ ?_))
                  clear hK20
                  refine cret (kthr ?_)
                  first
                    | (exfalso; omega; done)
                    | (refine kretv Try.results6 rfl (L1 := R) (by repeat first | exact .refl | exact .nil | exact .z | apply Pk.s | apply Ge.pick | apply Ge.drop) ?_
                       exact ⟨_, ⟨by first | rfl | (exfalso; omega; done) | (exfalso; simp_all; done) | (simp; omega) | simp_all, rfl⟩, by first | rfl | (exfalso; omega; done) | (exfalso; simp_all; done) | (simp; omega) | simp_all⟩)
                · (try simp only [decide_eq_true_eq, beq_iff_eq, beq_eq_false_iff_ne, decide_eq_decide, decide_eq_false_iff_not, Bool.not_eq_true', Bool.not_eq_false', Bool.not_eq_true, Bool.not_eq_false, Bool.not_not, ne_eq, Option.isNone_some, Option.isSome_some, Option.isNone_none, Option.isSome_none] at h67)
                  refine yg1 rfl rfl ?_
                  refine y (ev_move rfl) rfl ?_
                  refine yg1 rfl rfl ?_
                  refine y (ev_eql rfl rfl) rfl ?_
                  refine yg1 rfl rfl ?_
                  refine y (ev_move rfl) rfl ?_
                  refine ysplit 67 rfl (fun h73 => ?_) (fun h73 => ?_)
                  · (try simp only [decide_eq_true_eq, beq_iff_eq, beq_eq_false_iff_ne, decide_eq_decide, decide_eq_false_iff_not, Bool.not_eq_true', Bool.not_eq_false', Bool.not_eq_true, Bool.not_eq_false, Bool.not_not, ne_eq, Option.isNone_some, Option.isSome_some, Option.isNone_none, Option.isSome_none] at h73)
                    refine yg1 rfl rfl ?_
                    refine y (ev_move rfl) rfl ?_
                    refine yg1 rfl rfl ?_
                    first
                      | refine y (ev_len rfl Try.underlying27) rfl ?_
                      | refine y (ev_lenSv rfl Try.underlying27 (by assumption)) rfl ?_
                      | refine y (ev_lenV rfl Try.underlying27 (RdV.lenVal (by assumption))) rfl ?_
                      | refine y (ev_lenV rfl Try.underlying27 (RdB.lenVal (by assumption))) rfl ?_
                    refine yg1 rfl rfl ?_
                    refine y (ev_gtr rfl rfl) rfl ?_
                    refine yg1 rfl rfl ?_
                    refine y (ev_pick1 rfl rfl) rfl ?_
                    refine y (ev_pick0 rfl rfl) rfl ?_
                    refine y (ev_assign rfl) rfl ?_
                    refine ynil' (kthn (hK20 _ _ ?_))
                    clear hK20
                    refine cret (kthr ?_)
                    first
                      | (exfalso; omega; done)
                      | (refine kretv Try.results6 rfl (L1 := R) (by repeat first | exact .refl | exact .nil | exact .z | apply Pk.s | apply Ge.pick | apply Ge.drop) ?_
                         exact ⟨_, ⟨by first | rfl | (exfalso; omega; done) | (exfalso; simp_all; done) | (simp; omega) | simp_all, rfl⟩, by first | rfl | (exfalso; omega; done) | (exfalso; simp_all; done) | (simp; omega) | simp_all⟩)
                  · (try simp only [decide_eq_true_eq, beq_iff_eq, beq_eq_false_iff_ne, decide_eq_decide, decide_eq_false_iff_not, Bool.not_eq_true', Bool.not_eq_false', Bool.not_eq_true, Bool.not_eq_false, Bool.not_not, ne_eq, Option.isNone_some, Option.isSome_some, Option.isNone_none, Option.isSome_none] at h73)
                    refine yg0 rfl rfl rfl rfl ?_
                    refine yg0 rfl rfl rfl rfl ?_
                    refine yg0 rfl rfl rfl rfl ?_
                    refine yg1 rfl rfl ?_
                    refine y (ev_pick0 rfl rfl) rfl ?_
                    refine y (ev_pick0 rfl rfl) rfl ?_
                    refine y (ev_assign rfl) rfl ?_
                    refine ynil' (kthn (hK20 _ _ ?_))
                    clear hK20
                    refine cret (kthr ?_)
                    first
                      | (exfalso; omega; done)
                      | (refine kretv Try.results6 rfl (L1 := R) (by repeat first | exact .refl | exact .nil | exact .z | apply Pk.s | apply Ge.pick | apply Ge.drop) ?_
                         exact ⟨_, ⟨by first | rfl | (exfalso; omega; done) | (exfalso; simp_all; done) | (simp; omega) | simp_all, rfl⟩, by first | rfl | (exfalso; omega; done) | (exfalso; simp_all; done) | (simp; omega) | simp_all⟩)
            · (try simp only [decide_eq_true_eq, beq_iff_eq, beq_eq_false_iff_ne, decide_eq_decide, decide_eq_false_iff_not, Bool.not_eq_true', Bool.not_eq_false', Bool.not_eq_true, Bool.not_eq_false, Bool.not_not, ne_eq, Option.isNone_some, Option.isSome_some, Option.isNone_none, Option.isSome_none] at h51)
              refine yg0 rfl rfl rfl rfl ?_
              refine yg0 rfl rfl rfl rfl ?_
              refine yg0 rfl rfl rfl rfl ?_
              refine yg0u rfl rfl rfl ?_
              refine yg0u rfl rfl rfl ?_
              refine yg0u rfl rfl rfl ?_
              refine yg0 rfl rfl rfl rfl ?_
              refine y (ev_pick0 rfl rfl) rfl ?_
              refine y (ev_move rfl) rfl ?_
              refine yg1 rfl rfl ?_
              refine y (ev_move rfl) rfl ?_
              refine yg1 rfl rfl ?_
              refine y (ev_eql rfl rfl) rfl ?_
              refine yg1 rfl rfl ?_
              refine y (ev_move rfl) rfl ?_
              refine ysplit 67 rfl (fun h88 => ?_) (fun h88 => ?_)
              · (try simp only [decide_eq_true_eq, beq_iff_eq, beq_eq_false_iff_ne, decide_eq_decide, decide_eq_false_iff_not, Bool.not_eq_true', Bool.not_eq_false', Bool.not_eq_true, Bool.not_eq_false, Bool.not_not, ne_eq, Option.isNone_some, Option.isSome_some, Option.isNone_none, Option.isSome_none] at h88)
                refine yg1 rfl rfl ?_
                refine y (ev_move rfl) rfl ?_
                refine yg1 rfl rfl ?_
                first
                  | refine y (ev_len rfl Try.underlying27) rfl ?_
                  | refine y (ev_lenSv rfl Try.underlying27 (by assumption)) rfl ?_
                  | refine y (ev_lenV rfl Try.underlying27 (RdV.lenVal (by assumption))) rfl ?_
                  | refine y (ev_lenV rfl Try.underlying27 (RdB.lenVal (by assumption))) rfl ?_
                refine yg1 rfl rfl ?_
                refine y (ev_gtr rfl rfl) rfl ?_
                refine yg1 rfl rfl ?_
                refine y (ev_pick1 rfl rfl) rfl ?_
                refine y (ev_pick0 rfl rfl) rfl ?_
                refine y (ev_assign rfl) rfl ?_
                refine ynil' (kthn (hK20 _ _ ?_))
                clear hK20
                refine cret (kthr ?_)
                first
                  | (exfalso; omega; done)
                  | (refine kretv Try.results6 rfl (L1 := R) (by repeat first | exact .refl | exact .nil | exact .z | apply Pk.s | apply Ge.pick | apply Ge.drop) ?_
                     exact ⟨_, ⟨by first | rfl | (exfalso; omega; done) | (exfalso; simp_all; done) | (simp; omega) | simp_all, rfl⟩, by first | rfl | (exfalso; omega; done) | (exfalso; simp_all; done) | (simp; omega) | simp_all⟩)
              · (try simp only [decide_eq_true_eq, beq_iff_eq, beq_eq_false_iff_ne, decide_eq_decide, decide_eq_false_iff_not, Bool.not_eq_true', Bool.not_eq_false', Bool.not_eq_true, Bool.not_eq_false, Bool.not_not, ne_eq, Option.isNone_some, Option.isSome_some, Option.isNone_none, Option.isSome_none] at h88)
                refine yg0 rfl rfl rfl rfl ?_
                refine yg0 rfl rfl rfl rfl ?_
                refine yg0 rfl rfl rfl rfl ?_
                refine yg1 rfl rfl ?_
                refine y (ev_pick0 rfl rfl) rfl ?_
                refine y (ev_pick0 rfl rfl) rfl ?_
                refine y (ev_assign rfl) rfl ?_
                refine ynil' (kthn (hK20 _ _ ?_))
                clear hK20
                refine cret (kthr ?_)
                first
                  | (exfalso; omega; done)
                  | (refine kretv Try.results6 rfl (L1 := R) (by repeat first | exact .refl | exact .nil | exact .z | apply Pk.s | apply Ge.pick | apply Ge.drop) ?_
                     exact ⟨_, ⟨by first | rfl | (exfalso; omega; done) | (exfalso; simp_all; done) | (simp; omega) | simp_all, rfl⟩, by first | rfl | (exfalso; omega; done) | (exfalso; simp_all; done) | (simp; omega) | simp_all⟩)
          · (try simp only [decide_eq_true_eq, beq_iff_eq, beq_eq_false_iff_ne, decide_eq_decide, decide_eq_false_iff_not, Bool.not_eq_true', Bool.not_eq_false', Bool.not_eq_true, Bool.not_eq_false, Bool.not_not, ne_eq, Option.isNone_some, Option.isSome_some, Option.isNone_none, Option.isSome_none] at h47)
            obtain ⟨hs, hi0, hi1, hbl⟩ := hsw h47
            refine cskip' (kthn (hK18 _ _ ?_))
            clear hK18
            refine cseq ?_; intro K21 hK21
            refine cseq ?_; intro K22 hK22
            refine creg ?_
            refine y (ev_assign rfl) rfl ?_
            refine ynil' (kthn (hK22 _ _ ?_))
            clear hK22
            refine cblock ?_
            refine cloop (A := Nat × Dev) (fun x => [(14, i64 x.1), (11, dp q), (4, mv), (2, i64 i), (3, bv)]) (fun x => [dev q x.2] ++ R) (fun x => Up x.2 n.toNat ∧ x.2.sec i = pad bs ∧ x.1 ≤ more.length ∧ x.1 ≤ 80) (fun x => more.length - x.1) ((0, (D1.write i bs).2)) ?_ (by repeat first | exact sub_nil | refine sub_cons rfl ?_ | refine sub_cons' rfl (by simp) ?_) (by repeat first | exact .refl | exact .nil | exact .z | apply Pk.s | apply Ge.pick | apply Ge.drop) ?_
            · exact ⟨hU2, hs, Nat.zero_le _, Nat.zero_le _⟩
            rintro ⟨k, D⟩ hI2 KL2 hL2
            have hI2o := hI2
            obtain ⟨hU, hs, hk1, hk2⟩ := hI2; dsimp only at hU hs hk1 hk2 ⊢
            refine cseq ?_; intro K23 hK23
            refine cseq ?_; intro K24 hK24
            refine creg ?_
            refine y (ev_move rfl) rfl ?_
            refine y (ev_move rfl) rfl ?_
            first
              | refine y (ev_len rfl Try.underlying22) rfl ?_
              | refine y (ev_lenSv rfl Try.underlying22 (by assumption)) rfl ?_
              | refine y (ev_lenV rfl Try.underlying22 (RdV.lenVal (by assumption))) rfl ?_
              | refine y (ev_lenV rfl Try.underlying22 (RdB.lenVal (by assumption))) rfl ?_
            refine y (ev_lss rfl rfl) rfl ?_
            refine y (ev_move rfl) rfl ?_
            refine ysplit 77 rfl (fun h104 => ?_) (fun h104 => ?_)
            · (try simp only [decide_eq_true_eq, beq_iff_eq, beq_eq_false_iff_ne, decide_eq_decide, decide_eq_false_iff_not, Bool.not_eq_true', Bool.not_eq_false', Bool.not_eq_true, Bool.not_eq_false, Bool.not_not, ne_eq, Option.isNone_some, Option.isSome_some, Option.isNone_none, Option.isSome_none] at h104)
              refine yg1 rfl rfl ?_
              refine y (ev_move rfl) rfl ?_
              refine yg1 rfl rfl ?_
              refine y (ev_lss rfl rfl) rfl ?_
              refine y (ev_pick1 rfl rfl) rfl ?_
              refine ynil' (kthn (hK24 _ _ ?_))
              clear hK24
              refine ccond rfl (fun h108 => ?_) (fun h108 => ?_)
              · (try simp only [decide_eq_true_eq, beq_iff_eq, beq_eq_false_iff_ne, decide_eq_decide, decide_eq_false_iff_not, Bool.not_eq_true', Bool.not_eq_false', Bool.not_eq_true, Bool.not_eq_false, Bool.not_not, ne_eq, Option.isNone_some, Option.isSome_some, Option.isNone_none, Option.isSome_none] at h108)
                obtain ⟨a, hka⟩ : ∃ a, more[k]? = some a := ⟨_, List.getElem?_eq_getElem (by omega)⟩
                have hact := hma a (List.mem_of_getElem? hka)
                obtain ⟨hc0, hc1, hc2, hc3⟩ := actsV_at hka
                refine cskip' (kthn (hK23 _ _ ?_))
                clear hK23
                refine cseq ?_; intro K25 hK25
                refine cblock ?_
                refine cseq ?_; intro K26 hK26
                refine cseq ?_; intro K27 hK27
                refine creg ?_
                refine y (ev_move rfl) rfl ?_
                refine y (ev_move rfl) rfl ?_
                first
                  | refine y (ev_ixAddr rfl rfl Try.underlying22 Try.sizeOf30 (by omega) (by omega)) rfl ?_
                  | refine y (ev_ixV (by assumption) rfl rfl Try.underlying22 Try.sizeOf30 (by omega) (by omega)) rfl ?_
                refine y (ev_fieldAddr 1 rfl Try.underlying30 rfl Try.sizeOf3) rfl ?_
                refine y (ev_loadV (k * 4 + 1) hm (by repeat first | exact .refl | exact .nil | exact .z | apply Pk.s | apply Ge.pick | apply Ge.drop) rfl Try.isAgg3 (by simp; omega) hc1) rfl ?_
                refine y (ev_move rfl) rfl ?_
                refine y (ev_neq rfl rfl) rfl ?_
                refine y (ev_move rfl) rfl ?_
                refine ysplit 90 rfl (fun h117 => ?_) (fun h117 => ?_)
                · (try simp only [decide_eq_true_eq, beq_iff_eq, beq_eq_false_iff_ne, decide_eq_decide, decide_eq_false_iff_not, Bool.not_eq_true', Bool.not_eq_false', Bool.not_eq_true, Bool.not_eq_false, Bool.not_not, ne_eq, Option.isNone_some, Option.isSome_some, Option.isNone_none, Option.isSome_none] at h117)
                  refine yg1 rfl rfl ?_
                  refine y (ev_move rfl) rfl ?_
                  refine yg1 rfl rfl ?_
                  refine y (ev_move rfl) rfl ?_
                  refine yg1 rfl rfl ?_
                  first
                    | refine y (ev_ixAddr rfl rfl Try.underlying22 Try.sizeOf30 (by omega) (by omega)) rfl ?_
                    | refine y (ev_ixV (by assumption) rfl rfl Try.underlying22 Try.sizeOf30 (by omega) (by omega)) rfl ?_
                  refine yg1 rfl rfl ?_
                  refine y (ev_loadNV (us := a.cells) (k * 4) hm (by repeat first | exact .refl | exact .nil | exact .z | apply Pk.s | apply Ge.pick | apply Ge.drop) rfl Try.isAgg30 Try.sizeOf30 (by simp) (actsV_get _ _ _ hka) rfl) rfl ?_
                  refine yg1 rfl rfl ?_
                  refine ycall (large ?act122) rfl Try.call21 (by repeat first | exact .nil | exact .z | apply Pk.s | apply Tk.cons) rfl ?_
                  case act122 => exact hact.mono (by repeat first | exact .refl | exact .nil | exact .z | apply Pk.s | apply Ge.pick | apply Ge.drop)
                  rintro v L' ⟨rfl, rfl⟩
                  refine yg1 rfl rfl ?_
                  refine y (ev_not rfl) rfl ?_
                  refine y (ev_pick1 rfl rfl) rfl ?_
                  refine ynil' (kthn (hK27 _ _ ?_))
                  clear hK27
                  refine ccond rfl (fun h125 => ?_) (fun h125 => ?_)
                  · (try simp only [decide_eq_true_eq, beq_iff_eq, beq_eq_false_iff_ne, decide_eq_decide, decide_eq_false_iff_not, Bool.not_eq_true', Bool.not_eq_false', Bool.not_eq_true, Bool.not_eq_false, Bool.not_not, ne_eq, Option.isNone_some, Option.isSome_some, Option.isNone_none, Option.isSome_none] at h125)
                    refine cdraw 11 [(0, true), (1, true), (2, true), (3, true), (4, true), (5, true), (6, true), (7, true), (8, true), (9, true), (10, true)] (_) Try.mixed (by kernel_rfl) .refl ?_
                    refine hr rfl (ev_move rfl) rfl ?_
                    refine hr rfl (ev_move rfl) rfl ?_
                    refine hr rfl (ev_move rfl) rfl ?_
                    first
                      | refine hr rfl (ev_ixAddr rfl rfl Try.underlying22 Try.sizeOf30 (by omega) (by omega)) rfl ?_
                      | refine hr rfl (ev_ixV (by assumption) rfl rfl Try.underlying22 Try.sizeOf30 (by omega) (by omega)) rfl ?_
                    refine hr rfl (ev_fieldAddr 1 rfl Try.underlying30 rfl Try.sizeOf3) rfl ?_
                    refine hr rfl (ev_loadV (k * 4 + 1) hm (by repeat first | exact .refl | exact .nil | exact .z | apply Pk.s | apply Ge.pick | apply Ge.drop) rfl Try.isAgg3 (by simp; omega) hc1) rfl ?_
                    refine hr rfl (ev_move rfl) rfl ?_
                    refine hr rfl (ev_move rfl) rfl ?_
                    first
                      | refine hr rfl (ev_ixAddr rfl rfl Try.underlying22 Try.sizeOf30 (by omega) (by omega)) rfl ?_
                      | refine hr rfl (ev_ixV (by assumption) rfl rfl Try.underlying22 Try.sizeOf30 (by omega) (by omega)) rfl ?_
                    refine hr rfl (ev_fieldAddr 2 rfl Try.underlying30 rfl Try.sizeOf27) rfl ?_
                    refine hr rfl (ev_loadV (k * 4 + 2) hm (by repeat first | exact .refl | exact .nil | exact .z | apply Pk.s | apply Ge.pick | apply Ge.drop) rfl Try.isAgg27 (by simp; omega) hc2) rfl ?_
                    refine hnil ?_
                    refine ycall (secWrite (bs := a.bs) ?ok137 ?rd137) rfl Try.call18 (by repeat first | exact .nil | exact .z | apply Pk.s | apply Tk.cons) rfl ?_
                    case ok137 => first | exact hU.ok | exact hD
                    case rd137 => first | exact hact.bytes.mono (by repeat first | exact .refl | exact .nil | exact .z | apply Pk.s | apply Ge.pick | apply Ge.drop) | exact hb.mono (by repeat first | exact .refl | exact .nil | exact .z | apply Pk.s | apply Ge.pick | apply Ge.drop)
                    rintro v L' ⟨rfl, rfl⟩
                    have hs := (hU.sec_write_other (i := i) (j := a.i) (by assumption) a.bs).trans hs
                    have hU := hU.write_up a.i a.bs
                    refine hnoP' (kthn (hK26 _ _ ?_))
                    clear hK26
                    refine cseq ?_; intro K28 hK28
                    refine creg ?_
                    refine y (ev_move rfl) rfl ?_
                    refine y (ev_move rfl) rfl ?_
                    first
                      | refine y (ev_ixAddr rfl rfl Try.underlying22 Try.sizeOf30 (by omega) (by omega)) rfl ?_
                      | refine y (ev_ixV (by assumption) rfl rfl Try.underlying22 Try.sizeOf30 (by omega) (by omega)) rfl ?_
                    refine y (ev_fieldAddr 0 rfl Try.underlying30 rfl Try.sizeOf3) rfl ?_
                    refine y (ev_loadV (k * 4) hm (by repeat first | exact .refl | exact .nil | exact .z | apply Pk.s | apply Ge.pick | apply Ge.drop) rfl Try.isAgg3 (by simp) hc0) rfl ?_
                    refine y (ev_eql rfl rfl) rfl ?_
                    refine ynil' (kthn (hK28 _ _ ?_))
                    clear hK28
                    refine ccond rfl (fun h144 => ?_) (fun h144 => ?_)
                    · (try simp only [decide_eq_true_eq, beq_iff_eq, beq_eq_false_iff_ne, decide_eq_decide, decide_eq_false_iff_not, Bool.not_eq_true', Bool.not_eq_false', Bool.not_eq_true, Bool.not_eq_false, Bool.not_not, ne_eq, Option.isNone_some, Option.isSome_some, Option.isNone_none, Option.isSome_none] at h144)
                      refine creg ?_
                      refine y (ev_move rfl) rfl ?_
                      refine ycall (secBarrier ?ok146) rfl Try.call17 (by repeat first | exact .nil | exact .z | apply Pk.s | apply Tk.cons) rfl ?_
                      case ok146 => first | exact hU.ok | exact hD
                      rintro v L' ⟨rfl, rfl⟩
                      have hs := (hU.sec_barrier (i := i) hi0 (by omega)).trans hs
                      have hU := hU.barrier_up
                      refine ynil' (kbn (kthn (hK25 _ _ ?_)))
                      clear hK25
                      refine creg ?_
                      refine y (ev_move rfl) rfl ?_
                      refine y (ev_add rfl rfl) rfl ?_
                      rw [show IntKind.i64.wrap ((k:Int) + 1) = ((k+1 : Nat) : Int) by rw [wr (by omega) (by omega)]; rfl]
                      refine y (ev_assign rfl) rfl ?_
                      refine ynil' (kthn ?_)
                      first
                        | (exfalso; omega; done)
                        | exact hL2 (k + 1, _) ⟨hU, hs, by dsimp only; omega, by dsimp only; omega⟩ (by dsimp only; omega) _ _ (by repeat first | exact sub_nil | refine sub_cons rfl ?_ | refine sub_cons' rfl (by simp) ?_) (by repeat first | exact .refl | exact .nil | exact .z | apply Pk.s | apply Ge.pick | apply Ge.drop)
                    · (try simp only [decide_eq_true_eq, beq_iff_eq, beq_eq_false_iff_ne, decide_eq_decide, decide_eq_false_iff_not, Bool.not_eq_true', Bool.not_eq_false', Bool.not_eq_true, Bool.not_eq_false, Bool.not_not, ne_eq, Option.isNone_some, Option.isSome_some, Option.isNone_none, Option.isSome_none] at h144)
                      refine cskip' (kbn (kthn (hK25 _ _ ?_)))
                      clear hK25
                      refine creg ?_
                      refine y (ev_move rfl) rfl ?_
                      refine y (ev_add rfl rfl) rfl ?_
                      rw [show IntKind.i64.wrap ((k:Int) + 1) = ((k+1 : Nat) : Int) by rw [wr (by omega) (by omega)]; rfl]
                      refine y (ev_assign rfl) rfl ?_
                      refine ynil' (kthn ?_)
                      first
                        | (exfalso; omega; done)
                        | exact hL2 (k + 1, _) ⟨hU, hs, by dsimp only; omega, by dsimp only; omega⟩ (by dsimp only; omega) _ _ (by repeat first | exact sub_nil | refine sub_cons rfl ?_ | refine sub_cons' rfl (by simp) ?_) (by repeat first | exact .refl | exact .nil | exact .z | apply Pk.s | apply Ge.pick | apply Ge.drop)
                  · (try simp only [decide_eq_true_eq, beq_iff_eq, beq_eq_false_iff_ne, decide_eq_decide, decide_eq_false_iff_not, Bool.not_eq_true', Bool.not_eq_false', Bool.not_eq_true, Bool.not_eq_false, Bool.not_not, ne_eq, Option.isNone_some, Option.isSome_some, Option.isNone_none, Option.isSome_none] at h125)
                    refine cskip' (kthn (hK26 _ _ ?_))
                    clear hK26
                    refine cseq ?_; intro K29 hK29
                    refine creg ?_
                    refine y (ev_move rfl) rfl ?_
                    refine y (ev_move rfl) rfl ?_
                    first
                      | refine y (ev_ixAddr rfl rfl Try.underlying22 Try.sizeOf30 (by omega) (by omega)) rfl ?_
                      | refine y (ev_ixV (by assumption) rfl rfl Try.underlying22 Try.sizeOf30 (by omega) (by omega)) rfl ?_
                    refine y (ev_fieldAddr 0 rfl Try.underlying30 rfl Try.sizeOf3) rfl ?_
                    refine y (ev_loadV (k * 4) hm (by repeat first | exact .refl | exact .nil | exact .z | apply Pk.s | apply Ge.pick | apply Ge.drop) rfl Try.isAgg3 (by simp) hc0) rfl ?_
                    refine y (ev_eql rfl rfl) rfl ?_
                    refine ynil' (kthn (hK29 _ _ ?_))
                    clear hK29
                    refine ccond rfl (fun h159 => ?_) (fun h159 => ?_)
                    · (try simp only [decide_eq_true_eq, beq_iff_eq, beq_eq_false_iff_ne, decide_eq_decide, decide_eq_false_iff_not, Bool.not_eq_true', Bool.not_eq_false', Bool.not_eq_true, Bool.not_eq_false, Bool.not_not, ne_eq, Option.isNone_some, Option.isSome_some, Option.isNone_none, Option.isSome_none] at h159)
                      refine creg ?_
                      refine y (ev_move rfl) rfl ?_
                      refine ycall (secBarrier ?ok161) rfl Try.call17 (by repeat first | exact .nil | exact .z | apply Pk.s | apply Tk.cons) rfl ?_
                      case ok161 => first | exact hU.ok | exact hD
                      rintro v L' ⟨rfl, rfl⟩
                      have hs := (hU.sec_barrier (i := i) hi0 (by omega)).trans hs
                      have hU := hU.barrier_up
                      refine ynil' (kbn (kthn (hK25 _ _ ?_)))
                      clear hK25
                      refine creg ?_
                      refine y (ev_move rfl) rfl ?_
                      refine y (ev_add rfl rfl) rfl ?_
                      rw [show IntKind.i64.wrap ((k:Int) + 1) = ((k+1 : Nat) : Int) by rw [wr (by omega) (by omega)]; rfl]
                      refine y (ev_assign rfl) rfl ?_
                      refine ynil' (kthn ?_)
                      first
                        | (exfalso; omega; done)
                        | exact hL2 (k + 1, _) ⟨hU, hs, by dsimp only; omega, by dsimp only; omega⟩ (by dsimp only; omega) _ _ (by repeat first | exact sub_nil | refine sub_cons rfl ?_ | refine sub_cons' rfl (by simp) ?_) (by repeat first | exact .refl | exact .nil | exact .z | apply Pk.s | apply Ge.pick | apply Ge.drop)
                    · (try simp only [decide_eq_true_eq, beq_iff_eq, beq_eq_false_iff_ne, decide_eq_decide, decide_eq_false_iff_not, Bool.not_eq_true', Bool.not_eq_false', Bool.not_eq_true, Bool.not_eq_false, Bool.not_not, ne_eq, Option.isNone_some, Option.isSome_some, Option.isNone_none, Option.isSome_none] at h159)
                      refine cskip' (kbn (kthn (hK25 _ _ ?_)))
                      clear hK25
                      refine creg ?_
                      refine y (ev_move rfl) rfl ?_
                      refine y (ev_add rfl rfl) rfl ?_
                      rw [show IntKind.i64.wrap ((k:Int) + 1) = ((k+1 : Nat) : Int) by rw [wr (by omega) (by omega)]; rfl]
                      refine y (ev_assign rfl) rfl ?_
                      refine ynil' (kthn ?_)
                      first
                        | (exfalso; omega; done)
                        | exact hL2 (k + 1, _) ⟨hU, hs, by dsimp only; omega, by dsimp only; omega⟩ (by dsimp only; omega) _ _ (by repeat first | exact sub_nil | refine sub_cons rfl ?_ | refine sub_cons' rfl (by simp) ?_) (by repeat first | exact .refl | exact .nil | exact .z | apply Pk.s | apply Ge.pick | apply Ge.drop)
                · (try simp only [decide_eq_true_eq, beq_iff_eq, beq_eq_false_iff_ne, decide_eq_decide, decide_eq_false_iff_not, Bool.not_eq_true', Bool.not_eq_false', Bool.not_eq_true, Bool.not_eq_false, Bool.not_not, ne_eq, Option.isNone_some, Option.isSome_some, Option.isNone_none, Option.isSome_none] at h117)
                  refine yg0 rfl rfl rfl rfl ?_
                  refine yg0 rfl rfl rfl rfl ?_
                  refine yg0 rfl rfl rfl rfl ?_
                  refine yg0 rfl rfl rfl rfl ?_
                  refine yg0 rfl rfl rfl rfl ?_
                  refine yg0 rfl rfl rfl rfl ?_
                  refine y (ev_pick0 rfl rfl) rfl ?_
                  refine ynil' (kthn (hK27 _ _ ?_))
                  clear hK27
                  refine ccond0 rfl ?_
                  refine cskip' (kthn (hK26 _ _ ?_))
                  clear hK26
                  refine cseq ?_; intro K30 hK30
                  refine creg ?_
                  refine y (ev_move rfl) rfl ?_
                  refine y (ev_move rfl) rfl ?_
                  first
                    | refine y (ev_ixAddr rfl rfl Try.underlying22 Try.sizeOf30 (by omega) (by omega)) rfl ?_
                    | refine y (ev_ixV (by assumption) rfl rfl Try.underlying22 Try.sizeOf30 (by omega) (by omega)) rfl ?_
                  refine y (ev_fieldAddr 0 rfl Try.underlying30 rfl Try.sizeOf3) rfl ?_
                  refine y (ev_loadV (k * 4) hm (by repeat first | exact .refl | exact .nil | exact .z | apply Pk.s | apply Ge.pick | apply Ge.drop) rfl Try.isAgg3 (by simp) hc0) rfl ?_
                  refine y (ev_eql rfl rfl) rfl ?_
                  refine ynil' (kthn (hK30 _ _ ?_))
                  clear hK30
                  refine ccond rfl (fun h175 => ?_) (fun h175 => ?_)
                  · (try simp only [decide_eq_true_eq, beq_iff_eq, beq_eq_false_iff_ne, decide_eq_decide, decide_eq_false_iff_not, Bool.not_eq_true', Bool.not_eq_false', Bool.not_eq_true, Bool.not_eq_false, Bool.not_not, ne_eq, Option.isNone_some, Option.isSome_some, Option.isNone_none, Option.isSome_none] at h175)
                    refine creg ?_
                    refine y (ev_move rfl) rfl ?_
                    refine ycall (secBarrier ?ok177) rfl Try.call17 (by repeat first | exact .nil | exact .z | apply Pk.s | apply Tk.cons) rfl ?_
                    case ok177 => first | exact hU.ok | exact hD
                    rintro v L' ⟨rfl, rfl⟩
                    have hs := (hU.sec_barrier (i := i) hi0 (by omega)).trans hs
                    have hU := hU.barrier_up
                    refine ynil' (kbn (kthn (hK25 _ _ ?_)))
                    clear hK25
                    refine creg ?_
                    refine y (ev_move rfl) rfl ?_
                    refine y (ev_add rfl rfl) rfl ?_
                    rw [show IntKind.i64.wrap ((k:Int) + 1) = ((k+1 : Nat) : Int) by rw [wr (by omega) (by omega)]; rfl]
                    refine y (ev_assign rfl) rfl ?_
                    refine ynil' (kthn ?_)
                    first
                      | (exfalso; omega; done)
                      | exact hL2 (k + 1, _) ⟨hU, hs, by dsimp only; omega, by dsimp only; omega⟩ (by dsimp only; omega) _ _ (by repeat first | exact sub_nil | refine sub_cons rfl ?_ | refine sub_cons' rfl (by simp) ?_) (by repeat first | exact .refl | exact .nil | exact .z | apply Pk.s | apply Ge.pick | apply Ge.drop)
                  · (try simp only [decide_eq_true_eq, beq_iff_eq, beq_eq_false_iff_ne, decide_eq_decide, decide_eq_false_iff_not, Bool.not_eq_true', Bool.not_eq_false', Bool.not_eq_true, Bool.not_eq_false, Bool.not_not, ne_eq, Option.isNone_some, Option.isSome_some, Option.isNone_none, Option.isSome_none] at h175)
                    refine cskip' (kbn (kthn (hK25 _ _ ?_)))
                    clear hK25
                    refine creg ?_
                    refine y (ev_move rfl) rfl ?_
                    refine y (ev_add rfl rfl) rfl ?_
                    rw [show IntKind.i64.wrap ((k:Int) + 1) = ((k+1 : Nat) : Int) by rw [wr (by omega) (by omega)]; rfl]
                    refine y (ev_assign rfl) rfl ?_
                    refine ynil' (kthn ?_)
                    first
                      | (exfalso; omega; done)
                      | exact hL2 (k + 1, _) ⟨hU, hs, by dsimp only; omega, by dsimp only; omega⟩ (by dsimp only; omega) _ _ (by repeat first | exact sub_nil | refine sub_cons rfl ?_ | refine sub_cons' rfl (by simp) ?_) (by repeat first | exact .refl | exact .nil | exact .z | apply Pk.s | apply Ge.pick | apply Ge.drop)
              · (try simp only [decide_eq_true_eq, beq_iff_eq, beq_eq_false_iff_ne, decide_eq_decide, decide_eq_false_iff_not, Bool.not_eq_true', Bool.not_eq_false', Bool.not_eq_true, Bool.not_eq_false, Bool.not_not, ne_eq, Option.isNone_some, Option.isSome_some, Option.isNone_none, Option.isSome_none] at h108)
                refine cexit (kthx (kthx (kbx (kthn (hK21 _ _ ?_)))))
                clear hK21
                refine cseq ?_; intro K31 hK31
                refine creg ?_
                refine y (ev_move rfl) rfl ?_
                refine y (ev_move rfl) rfl ?_
                refine ycall (secReadOk hU.ok (by rw [hU.has]; exact if_neg (by omega))) rfl Try.call30 (by repeat first | exact .nil | exact .z | apply Pk.s | apply Tk.cons) rfl ?_
                rintro v L' ⟨b121, cap121, sp121, rfl, hc121, rfl⟩
                rw [hs]
                refine y (ev_move rfl) rfl ?_
                refine y (ev_extract rfl rfl) rfl ?_
                refine y (ev_extract rfl rfl) rfl ?_
                refine y (ev_assign rfl) rfl ?_
                refine y (ev_assign rfl) rfl ?_
                refine ynil' (kthn (hK31 _ _ ?_))
                clear hK31
                refine cseq ?_; intro K32 hK32
                refine cseq ?_; intro K33 hK33
                refine cdraw 16 [(0, true), (1, true), (2, true), (3, true), (4, true), (5, true), (6, true), (7, true), (8, true), (9, true), (10, true), (11, true), (12, true), (13, true), (14, true), (15, true)] (_) Try.mixed (by kernel_rfl) .refl ?_
                refine hr rfl (ev_move rfl) rfl ?_
                refine hr rfl (ev_neq rfl rfl) rfl ?_
                refine hr rfl (ev_move rfl) rfl ?_
                refine hsplit 126 rfl (fun h195 => ?_) (fun h195 => ?_)
                · (try simp only [decide_eq_true_eq, beq_iff_eq, beq_eq_false_iff_ne, decide_eq_decide, decide_eq_false_iff_not, Bool.not_eq_true', Bool.not_eq_false', Bool.not_eq_true, Bool.not_eq_false, Bool.not_not, ne_eq, Option.isNone_some, Option.isSome_some, Option.isNone_none, Option.isSome_none] at h195)
                  refine hr0 rfl rfl rfl rfl rfl ?_
                  refine hr0 rfl rfl rfl rfl rfl ?_
                  refine hr0 rfl rfl rfl rfl rfl ?_
                  refine hr rfl (ev_pick1 rfl rfl) rfl ?_
                  refine hr rfl (ev_move rfl) rfl ?_
                  refine hr0 rfl rfl rfl rfl rfl ?_
                  refine hr0 rfl rfl rfl rfl rfl ?_
                  refine hr0 rfl rfl rfl rfl rfl ?_
                  refine hr0 rfl rfl rfl rfl rfl ?_
                  refine hr0 rfl rfl rfl rfl rfl ?_
                  refine hr0 rfl rfl rfl rfl rfl ?_
                  refine hr0 rfl rfl rfl rfl rfl ?_
                  refine hr0 rfl rfl rfl rfl rfl ?_
                  refine hnil ?_
                  refine y (ev_pick1 rfl rfl) rfl ?_
                  refine hnoP' (kthn (hK33 _ _ ?_))
                  clear hK33
                  refine ccond1 rfl ?_
                  refine cseq ?_; intro K34 hK34
                  refine creg ?_
                  refine y (ev_assign rfl) rfl ?_
                  refine ynil' (kthn (hK34 _ _ ?_))
                  clear hK34
                  refine cret (kthr ?_)
                  first
                    | (exfalso; omega; done)
                    | (refine kretv Try.results6 rfl (L1 := R) (by repeat first | exact .refl | exact .nil | exact .z | apply Pk.s | apply Ge.pick | apply Ge.drop) ?_
                       exact ⟨_, ⟨by first | rfl | (exfalso; omega; done) | (exfalso; simp_all; done) | (simp; omega) | simp_all, rfl⟩, by first | rfl | (exfalso; omega; done) | (exfalso; simp_all; done) | (simp; omega) | simp_all⟩)
                · (try simp only [decide_eq_true_eq, beq_iff_eq, beq_eq_false_iff_ne, decide_eq_decide, decide_eq_false_iff_not, Bool.not_eq_true', Bool.not_eq_false', Bool.not_eq_true, Bool.not_eq_false, Bool.not_not, ne_eq, Option.isNone_some, Option.isSome_some, Option.isNone_none, Option.isSome_none] at h195)
                  refine hr1 rfl rfl rfl (ev_move rfl) rfl ?_
                  first
                    | refine hr1 rfl rfl rfl (ev_len rfl Try.underlying27) rfl ?_
                    | refine hr1 rfl rfl rfl (ev_lenSv rfl Try.underlying27 (by assumption)) rfl ?_
                    | refine hr1 rfl rfl rfl (ev_lenV rfl Try.underlying27 (RdV.lenVal (by assumption))) rfl ?_
                    | refine hr1 rfl rfl rfl (ev_lenV rfl Try.underlying27 (RdB.lenVal (by assumption))) rfl ?_
                  refine hr1 rfl rfl rfl (ev_neq rfl rfl) rfl ?_
                  refine hr rfl (ev_pick0 rfl rfl) rfl ?_
                  refine hr rfl (ev_move rfl) rfl ?_
                  refine hsplit 131 rfl (fun h205 => ?_) (fun h205 => ?_)
                  · (try simp only [decide_eq_true_eq, beq_iff_eq, beq_eq_false_iff_ne, decide_eq_decide, decide_eq_false_iff_not, Bool.not_eq_true', Bool.not_eq_false', Bool.not_eq_true, Bool.not_eq_false, Bool.not_not, ne_eq, Option.isNone_some, Option.isSome_some, Option.isNone_none, Option.isSome_none] at h205)
                    refine hr0 rfl rfl rfl rfl rfl ?_
                    refine hr0 rfl rfl rfl rfl rfl ?_
                    refine hr0 rfl rfl rfl rfl rfl ?_
                    refine hr0 rfl rfl rfl rfl rfl ?_
                    refine hr0 rfl rfl rfl rfl rfl ?_
                    refine hr0 rfl rfl rfl rfl rfl ?_
                    refine hr0 rfl rfl rfl rfl rfl ?_
                    refine hr0 rfl rfl rfl rfl rfl ?_
                    refine hnil ?_
                    refine y (ev_pick1 rfl rfl) rfl ?_
                    refine hnoP' (kthn (hK33 _ _ ?_))
                    clear hK33
                    refine ccond1 rfl ?_
                    refine cseq ?_; intro K35 hK35
                    refine creg ?_
                    refine y (ev_assign rfl) rfl ?_
                    refine ynil' (kthn (hK35 _ _ ?_))
                    clear hK35
                    refine cret (kthr ?_)
                    first
                      | (exfalso; omega; done)
                      | (refine kretv Try.results6 rfl (L1 := R) (by repeat first | exact .refl | exact .nil | exact .z | apply Pk.s | apply Ge.pick | apply Ge.drop) ?_
                         exact ⟨_, ⟨by first | rfl | (exfalso; omega; done) | (exfalso; simp_all; done) | (simp; omega) | simp_all, rfl⟩, by first | rfl | (exfalso; omega; done) | (exfalso; simp_all; done) | (simp; omega) | simp_all⟩)
                  · (try simp only [decide_eq_true_eq, beq_iff_eq, beq_eq_false_iff_ne, decide_eq_decide, decide_eq_false_iff_not, Bool.not_eq_true', Bool.not_eq_false', Bool.not_eq_true, Bool.not_eq_false, Bool.not_not, ne_eq, Option.isNone_some, Option.isSome_some, Option.isNone_none, Option.isSome_none] at h205)
                    refine hr1 rfl rfl rfl (ev_move rfl) rfl ?_
                    refine hr1 rfl rfl rfl (ev_move rfl) rfl ?_
                    first
                      | refine hr1 rfl rfl rfl (ev_len rfl Try.underlying27) rfl ?_
                      | refine hr1 rfl rfl rfl (ev_lenSv rfl Try.underlying27 (by assumption)) rfl ?_
                      | refine hr1 rfl rfl rfl (ev_lenV rfl Try.underlying27 (RdV.lenVal (by assumption))) rfl ?_
                      | refine hr1 rfl rfl rfl (ev_lenV rfl Try.underlying27 (RdB.lenVal (by assumption))) rfl ?_
                    refine hr1 rfl rfl rfl (ev_slH rfl rfl Try.underlying27 Try.sizeOf5 (by omega) (by omega)) rfl ?_
                    refine hr1 rfl rfl rfl (ev_toStr (bs := bs) rfl Try.underlying27 Try.underlying9 Try.underlying5 (by simp) (by repeat first | exact .z | apply In.s) pad_take) rfl ?_
                    refine hr1 rfl rfl rfl (ev_move rfl) rfl ?_
                    refine hr1 rfl rfl rfl (ev_toStrB hb (by repeat first | exact .refl | exact .nil | exact .z | apply Pk.s | apply Ge.pick | apply Ge.drop) rfl Try.underlying27 Try.underlying9 Try.underlying5) rfl ?_
                    first
                      | refine hr1 rfl rfl rfl (ev_neqL rfl rfl) rfl ?_
                      | refine hr1 rfl rfl rfl (ev_neqS rfl rfl) rfl ?_
                    refine hnil ?_
                    refine y (ev_pick0 rfl rfl) rfl ?_
                    refine hnoP' (kthn (hK33 _ _ ?_))
                    clear hK33
                    refine ccond rfl (fun h217 => ?_) (fun h217 => ?_)
                    · (try simp only [decide_eq_true_eq, beq_iff_eq, beq_eq_false_iff_ne, decide_eq_decide, decide_eq_false_iff_not, Bool.not_eq_true', Bool.not_eq_false', Bool.not_eq_true, Bool.not_eq_false, Bool.not_not, ne_eq, Option.isNone_some, Option.isSome_some, Option.isNone_none, Option.isSome_none] at h217)
                      refine cseq ?_; intro K36 hK36
                      refine creg ?_
                      refine y (ev_assign rfl) rfl ?_
                      refine ynil' (kthn (hK36 _ _ ?_))
                      clear hK36
                      refine cret (kthr ?_)
                      first
                        | (exfalso; omega; done)
                        | (refine kretv Try.results6 rfl (L1 := R) (by repeat first | exact .refl | exact .nil | exact .z | apply Pk.s | apply Ge.pick | apply Ge.drop) ?_
                           exact ⟨_, ⟨by first | rfl | (exfalso; omega; done) | (exfalso; simp_all; done) | (simp; omega) | simp_all, rfl⟩, by first | rfl | (exfalso; omega; done) | (exfalso; simp_all; done) | (simp; omega) | simp_all⟩)
                    · (try simp only [decide_eq_true_eq, beq_iff_eq, beq_eq_false_iff_ne, decide_eq_decide, decide_eq_false_iff_not, Bool.not_eq_true', Bool.not_eq_false', Bool.not_eq_true, Bool.not_eq_false, Bool.not_not, ne_eq, Option.isNone_some, Option.isSome_some, Option.isNone_none, Option.isSome_none] at h217)
                      refine cskip' (kthn (hK32 _ _ ?_))
                      clear hK32
                      refine cseq ?_; intro K37 hK37
                      refine cseq ?_; intro K38 hK38
                      refine creg ?_
                      refine y (ev_move rfl) rfl ?_
                      first
                        | refine y (ev_len rfl Try.underlying27) rfl ?_
                        | refine y (ev_lenSv rfl Try.underlying27 (by assumption)) rfl ?_
                        | refine y (ev_lenV rfl Try.underlying27 (RdV.lenVal (by assumption))) rfl ?_
                        | refine y (ev_lenV rfl Try.underlying27 (RdB.lenVal (by assumption))) rfl ?_
                      refine y (ev_assign rfl) rfl ?_
                      refine ynil' (kthn (hK38 _ _ ?_))
                      clear hK38
                      refine cblock ?_
                      refine cloop (A := Nat) (fun x => [(17, i64 x), (15, .slice (some ⟨b121, 0, none⟩) 144 cap121)]) (fun x => [sc b121 (bytesV (pad bs) ++ sp121) 5] ++ R) (fun x => bs.length ≤ x ∧ x ≤ 144) (fun x => 144 - x) (bs.length) ?_ (by repeat first | exact sub_nil | refine sub_cons rfl ?_ | refine sub_cons' rfl (by simp) ?_) (by repeat first | exact .refl | exact .nil | exact .z | apply Pk.s | apply Ge.pick | apply Ge.drop) ?_
                      · exact ⟨Nat.le_refl _, hbl⟩
                      rintro z hI3 KL3 hL3
                      obtain ⟨hz0, hz1⟩ := hI3
                      refine cseq ?_; intro K39 hK39
                      refine cseq ?_; intro K40 hK40
                      refine creg ?_
                      refine y (ev_move rfl) rfl ?_
                      refine y (ev_move rfl) rfl ?_
                      first
                        | refine y (ev_len rfl Try.underlying27) rfl ?_
                        | refine y (ev_lenSv rfl Try.underlying27 (by assumption)) rfl ?_
                        | refine y (ev_lenV rfl Try.underlying27 (RdV.lenVal (by assumption))) rfl ?_
                        | refine y (ev_lenV rfl Try.underlying27 (RdB.lenVal (by assumption))) rfl ?_
                      refine y (ev_lss rfl rfl) rfl ?_
                      refine ynil' (kthn (hK40 _ _ ?_))
                      clear hK40
                      refine ccond rfl (fun h226 => ?_) (fun h226 => ?_)
                      · (try simp only [decide_eq_true_eq, beq_iff_eq, beq_eq_false_iff_ne, decide_eq_decide, decide_eq_false_iff_not, Bool.not_eq_true', Bool.not_eq_false', Bool.not_eq_true, Bool.not_eq_false, Bool.not_not, ne_eq, Option.isNone_some, Option.isSome_some, Option.isNone_none, Option.isSome_none] at h226)
                        refine cskip' (kthn (hK39 _ _ ?_))
                        clear hK39
                        refine cseq ?_; intro K41 hK41
                        refine cblock ?_
                        refine cseq ?_; intro K42 hK42
                        refine creg ?_
                        refine y (ev_move rfl) rfl ?_
                        refine y (ev_move rfl) rfl ?_
                        first
                          | refine y (ev_ixAddr rfl rfl Try.underlying27 Try.sizeOf5 (by omega) (by omega)) rfl ?_
                          | refine y (ev_ixV (by assumption) rfl rfl Try.underlying27 Try.sizeOf5 (by omega) (by omega)) rfl ?_
                        refine y (ev_load rfl Try.isAgg5 (by repeat first | exact .z | apply In.s) (by rw [show 0 + (z : Int).toNat * 1 = z by simp]; exact pad_zero hz0 (by omega))) rfl ?_
                        refine y (ev_neq rfl rfl) rfl ?_
                        refine ynil' (kthn (hK42 _ _ ?_))
                        clear hK42
                        refine ccond rfl (fun h232 => ?_) (fun h232 => ?_)
                        · (try simp only [decide_eq_true_eq, beq_iff_eq, beq_eq_false_iff_ne, decide_eq_decide, decide_eq_false_iff_not, Bool.not_eq_true', Bool.not_eq_false', Bool.not_eq_true, Bool.not_eq_false, Bool.not_not, ne_eq, Option.isNone_some, Option.isSome_some, Option.isNone_none, Option.isSome_none] at h232)
                          refine cseq ?_; intro K43 hK43
                          refine creg ?_
                          refine y (ev_assign rfl) rfl ?_
                          refine ynil' (kthn (hK43 _ _ ?_))
                          clear hK43
                          refine cret (kbr (kthr (kthr (kbr (kthr ?_)))))
                          first
                            | (exfalso; omega; done)
                            | (refine kretv Try.results6 rfl (L1 := R) (by repeat first | exact .refl | exact .nil | exact .z | apply Pk.s | apply Ge.pick | apply Ge.drop) ?_
                               exact ⟨_, ⟨by first | rfl | (exfalso; omega; done) | (exfalso; simp_all; done) | (simp; omega) | simp_all, rfl⟩, by first | rfl | (exfalso; omega; done) | (exfalso; simp_all; done) | (simp; omega) | simp_all⟩)
                        · (try simp only [decide_eq_true_eq, beq_iff_eq, beq_eq_false_iff_ne, decide_eq_decide, decide_eq_false_iff_not, Bool.not_eq_true', Bool.not_eq_false', Bool.not_eq_true, Bool.not_eq_false, Bool.not_not, ne_eq, Option.isNone_some, Option.isSome_some, Option.isNone_none, Option.isSome_none] at h232)
                          refine cskip' (kbn (kthn (hK41 _ _ ?_)))
                          clear hK41
                          refine creg ?_
                          refine y (ev_move rfl) rfl ?_
                          refine y (ev_add rfl rfl) rfl ?_
                          rw [show IntKind.i64.wrap ((z:Int) + 1) = ((z+1 : Nat) : Int) by rw [wr (by omega) (by omega)]; rfl]
                          refine y (ev_assign rfl) rfl ?_
                          refine ynil' (kthn ?_)
                          exact hL3 (z + 1) (⟨by omega, by omega⟩) (by omega) _ _ (by repeat first | exact sub_nil | refine sub_cons rfl ?_ | refine sub_cons' rfl (by simp) ?_) (by repeat first | exact .refl | exact .nil | exact .z | apply Pk.s | apply Ge.pick | apply Ge.drop)
                      · (try simp only [decide_eq_true_eq, beq_iff_eq, beq_eq_false_iff_ne, decide_eq_decide, decide_eq_false_iff_not, Bool.not_eq_true', Bool.not_eq_false', Bool.not_eq_true, Bool.not_eq_false, Bool.not_not, ne_eq, Option.isNone_some, Option.isSome_some, Option.isNone_none, Option.isSome_none] at h226)
                        refine cexit (kthx (kthx (kbx (kthn (hK37 _ _ ?_)))))
                        clear hK37
                        refine cseq ?_; intro K44 hK44
                        refine creg ?_
                        refine y (ev_assign rfl) rfl ?_
                        refine ynil' (kthn (hK44 _ _ ?_))
                        clear hK44
                        refine cret ?_
                        first
                          | (exfalso; omega; done)
                          | (refine kretv Try.results6 rfl (L1 := R) (by repeat first | exact .refl | exact .nil | exact .z | apply Pk.s | apply Ge.pick | apply Ge.drop) ?_
                             exact ⟨_, ⟨by first | rfl | (exfalso; omega; done) | (exfalso; simp_all; done) | (simp; omega) | simp_all, rfl⟩, by first | rfl | (exfalso; omega; done) | (exfalso; simp_all; done) | (simp; omega) | simp_all⟩)
            · (try simp only [decide_eq_true_eq, beq_iff_eq, beq_eq_false_iff_ne, decide_eq_decide, decide_eq_false_iff_not, Bool.not_eq_true', Bool.not_eq_false', Bool.not_eq_true, Bool.not_eq_false, Bool.not_not, ne_eq, Option.isNone_some, Option.isSome_some, Option.isNone_none, Option.isSome_none] at h104)
              refine yg0 rfl rfl rfl rfl ?_
              refine yg0 rfl rfl rfl rfl ?_
              refine y (ev_pick0 rfl rfl) rfl ?_
              refine ynil' (kthn (hK24 _ _ ?_))
              clear hK24
              refine ccond0 rfl ?_
              refine cexit (kthx (kthx (kbx (kthn (hK21 _ _ ?_)))))
              clear hK21
              refine cseq ?_; intro K45 hK45
              refine creg ?_
              refine y (ev_move rfl) rfl ?_
              refine y (ev_move rfl) rfl ?_
              refine ycall (secReadOk hU.ok (by rw [hU.has]; exact if_neg (by omega))) rfl Try.call30 (by repeat first | exact .nil | exact .z | apply Pk.s | apply Tk.cons) rfl ?_
              rintro v L' ⟨b121, cap121, sp121, rfl, hc121, rfl⟩
              rw [hs]
              refine y (ev_move rfl) rfl ?_
              refine y (ev_extract rfl rfl) rfl ?_
              refine y (ev_extract rfl rfl) rfl ?_
              refine y (ev_assign rfl) rfl ?_
              refine y (ev_assign rfl) rfl ?_
              refine ynil' (kthn (hK45 _ _ ?_))
              clear hK45
              refine cseq ?_; intro K46 hK46
              refine cseq ?_; intro K47 hK47
              refine cdraw 16 [(0, true), (1, true), (2, true), (3, true), (4, true), (5, true), (6, true), (7, true), (8, true), (9, true), (10, true), (11, true), (12, true), (13, true), (14, true), (15, true)] (_) Try.mixed (by kernel_rfl) .refl ?_
              refine hr rfl (ev_move rfl) rfl ?_
              refine hr rfl (ev_neq rfl rfl) rfl ?_
              refine hr rfl (ev_move rfl) rfl ?_
              refine hsplit 126 rfl (fun h250 => ?_) (fun h250 => ?_)
              · (try simp only [decide_eq_true_eq, beq_iff_eq, beq_eq_false_iff_ne, decide_eq_decide, decide_eq_false_iff_not, Bool.not_eq_true', Bool.not_eq_false', Bool.not_eq_true, Bool.not_eq_false, Bool.not_not, ne_eq, Option.isNone_some, Option.isSome_some, Option.isNone_none, Option.isSome_none] at h250)
                refine hr0 rfl rfl rfl rfl rfl ?_
                refine hr0 rfl rfl rfl rfl rfl ?_
                refine hr0 rfl rfl rfl rfl rfl ?_
                refine hr rfl (ev_pick1 rfl rfl) rfl ?_
                refine hr rfl (ev_move rfl) rfl ?_
                refine hr0 rfl rfl rfl rfl rfl ?_
                refine hr0 rfl rfl rfl rfl rfl ?_
                refine hr0 rfl rfl rfl rfl rfl ?_
                refine hr0 rfl rfl rfl rfl rfl ?_
                refine hr0 rfl rfl rfl rfl rfl ?_
                refine hr0 rfl rfl rfl rfl rfl ?_
                refine hr0 rfl rfl rfl rfl rfl ?_
                refine hr0 rfl rfl rfl rfl rfl ?_
                refine hnil ?_
                refine y (ev_pick1 rfl rfl) rfl ?_
                refine hnoP' (kthn (hK47 _ _ ?_))
                clear hK47
                refine ccond1 rfl ?_
                refine cseq ?_; intro K48 hK48
                refine creg ?_
                refine y (ev_assign rfl) rfl ?_
                refine ynil' (kthn (hK48 _ _ ?_))
                clear hK48
                refine cret (kthr ?_)
                first
                  | (exfalso; omega; done)
                  | (refine kretv Try.results6 rfl (L1 := R) (by repeat first | exact .refl | exact .nil | exact .z | apply Pk.s | apply Ge.pick | apply Ge.drop) ?_
                     exact ⟨_, ⟨by first | rfl | (exfalso; omega; done) | (exfalso; simp_all; done) | (simp; omega) | simp_all, rfl⟩, by first | rfl | (exfalso; omega; done) | (exfalso; simp_all; done) | (simp; omega) | simp_all⟩)
              · (try simp only [decide_eq_true_eq, beq_iff_eq, beq_eq_false_iff_ne, decide_eq_decide, decide_eq_false_iff_not, Bool.not_eq_true', Bool.not_eq_false', Bool.not_eq_true, Bool.not_eq_false, Bool.not_not, ne_eq, Option.isNone_some, Option.isSome_some, Option.isNone_none, Option.isSome_none] at h250)
                refine hr1 rfl rfl rfl (ev_move rfl) rfl ?_
                first
                  | refine hr1 rfl rfl rfl (ev_len rfl Try.underlying27) rfl ?_
                  | refine hr1 rfl rfl rfl (ev_lenSv rfl Try.underlying27 (by assumption)) rfl ?_
                  | refine hr1 rfl rfl rfl (ev_lenV rfl Try.underlying27 (RdV.lenVal (by assumption))) rfl ?_
                  | refine hr1 rfl rfl rfl (ev_lenV rfl Try.underlying27 (RdB.lenVal (by assumption))) rfl ?_
                refine hr1 rfl rfl rfl (ev_neq rfl rfl) rfl ?_
                refine hr rfl (ev_pick0 rfl rfl) rfl ?_
                refine hr rfl (ev_move rfl) rfl ?_
                refine hsplit 131 rfl (fun h260 => ?_) (fun h260 => ?_)
                · (try simp only [decide_eq_true_eq, beq_iff_eq, beq_eq_false_iff_ne, decide_eq_decide, decide_eq_false_iff_not, Bool.not_eq_true', Bool.not_eq_false', Bool.not_eq_true, Bool.not_eq_false, Bool.not_not, ne_eq, Option.isNone_some, Option.isSome_some, Option.isNone_none, Option.isSome_none] at h260)
                  refine hr0 rfl rfl rfl rfl rfl ?_
                  refine hr0 rfl rfl rfl rfl rfl ?_
                  refine hr0 rfl rfl rfl rfl rfl ?_
                  refine hr0 rfl rfl rfl rfl rfl ?_
                  refine hr0 rfl rfl rfl rfl rfl ?_
                  refine hr0 rfl rfl rfl rfl rfl ?_
                  refine hr0 rfl rfl rfl rfl rfl ?_
                  refine hr0 rfl rfl rfl rfl rfl ?_
                  refine hnil ?_
                  refine y (ev_pick1 rfl rfl) rfl ?_
                  refine hnoP' (kthn (hK47 _ _ ?_))
                  clear hK47
                  refine ccond1 rfl ?_
                  refine cseq ?_; intro K49 hK49
                  refine creg ?_
                  refine y (ev_assign rfl) rfl ?_
                  refine ynil' (kthn (hK49 _ _ ?_))
                  clear hK49
                  refine cret (kthr ?_)
                  first
                    | (exfalso; omega; done)
                    | (refine kretv Try.results6 rfl (L1 := R) (by repeat first | exact .refl | exact .nil | exact .z | apply Pk.s | apply Ge.pick | apply Ge.drop) ?_
                       exact ⟨_, ⟨by first | rfl | (exfalso; omega; done) | (exfalso; simp_all; done) | (simp; omega) | simp_all, rfl⟩, by first | rfl | (exfalso; omega; done) | (exfalso; simp_all; done) | (simp; omega) | simp_all⟩)
                · (try simp only [decide_eq_true_eq, beq_iff_eq, beq_eq_false_iff_ne, decide_eq_decide, decide_eq_false_iff_not, Bool.not_eq_true', Bool.not_eq_false', Bool.not_eq_true, Bool.not_eq_false, Bool.not_not, ne_eq, Option.isNone_some, Option.isSome_some, Option.isNone_none, Option.isSome_none] at h260)
                  refine hr1 rfl rfl rfl (ev_move rfl) rfl ?_
                  refine hr1 rfl rfl rfl (ev_move rfl) rfl ?_
                  first
                    | refine hr1 rfl rfl rfl (ev_len rfl Try.underlying27) rfl ?_
                    | refine hr1 rfl rfl rfl (ev_lenSv rfl Try.underlying27 (by assumption)) rfl ?_
                    | refine hr1 rfl rfl rfl (ev_lenV rfl Try.underlying27 (RdV.lenVal (by assumption))) rfl ?_
                    | refine hr1 rfl rfl rfl (ev_lenV rfl Try.underlying27 (RdB.lenVal (by assumption))) rfl ?_
                  refine hr1 rfl rfl rfl (ev_slH rfl rfl Try.underlying27 Try.sizeOf5 (by omega) (by omega)) rfl ?_
                  refine hr1 rfl rfl rfl (ev_toStr (bs := bs) rfl Try.underlying27 Try.underlying9 Try.underlying5 (by simp) (by repeat first | exact .z | apply In.s) pad_take) rfl ?_
                  refine hr1 rfl rfl rfl (ev_move rfl) rfl ?_
                  refine hr1 rfl rfl rfl (ev_toStrB hb (by repeat first | exact .refl | exact .nil | exact .z | apply Pk.s | apply Ge.pick | apply Ge.drop) rfl Try.underlying27 Try.underlying9 Try.underlying5) rfl ?_
                  first
                    | refine hr1 rfl rfl rfl (ev_neqL rfl rfl) rfl ?_
                    | refine hr1 rfl rfl rfl (ev_neqS rfl rfl) rfl ?_
                  refine hnil ?_
                  refine y (ev_pick0 rfl rfl) rfl ?_
                  refine hnoP' (kthn (hK47 _ _ ?_))
                  clear hK47
                  refine ccond rfl (fun h272 => ?_) (fun h272 => ?_)
                  · (try simp only [decide_eq_true_eq, beq_iff_eq, beq_eq_false_iff_ne, decide_eq_decide, decide_eq_false_iff_not, Bool.not_eq_true', Bool.not_eq_false', Bool.not_eq_true, Bool.not_eq_false, Bool.not_not, ne_eq, Option.isNone_some, Option.isSome_some, Option.isNone_none, Option.isSome_none] at h272)
                    refine cseq ?_; intro K50 hK50
                    refine creg ?_
                    refine y (ev_assign rfl) rfl ?_
                    refine ynil' (kthn (hK50 _ _ ?_))
                    clear hK50
                    refine cret (kthr ?_)
                    first
                      | (exfalso; omega; done)
                      | (refine kretv Try.results6 rfl (L1 := R) (by repeat first | exact .refl | exact .nil | exact .z | apply Pk.s | apply Ge.pick | apply Ge.drop) ?_
                         exact ⟨_, ⟨by first | rfl | (exfalso; omega; done) | (exfalso; simp_all; done) | (simp; omega) | simp_all, rfl⟩, by first | rfl | (exfalso; omega; done) | (exfalso; simp_all; done) | (simp; omega) | simp_all⟩)
                  · (try simp only [decide_eq_true_eq, beq_iff_eq, beq_eq_false_iff_ne, decide_eq_decide, decide_eq_false_iff_not, Bool.not_eq_true', Bool.not_eq_false', Bool.not_eq_true, Bool.not_eq_false, Bool.not_not, ne_eq, Option.isNone_some, Option.isSome_some, Option.isNone_none, Option.isSome_none] at h272)
                    refine cskip' (kthn (hK46 _ _ ?_))
                    clear hK46
                    refine cseq ?_; intro K51 hK51
                    refine cseq ?_; intro K52 hK52
                    refine creg ?_
                    refine y (ev_move rfl) rfl ?_
                    first
                      | refine y (ev_len rfl Try.underlying27) rfl ?_
                      | refine y (ev_lenSv rfl Try.underlying27 (by assumption)) rfl ?_
                      | refine y (ev_lenV rfl Try.underlying27 (RdV.lenVal (by assumption))) rfl ?_
                      | refine y (ev_lenV rfl Try.underlying27 (RdB.lenVal (by assumption))) rfl ?_
                    refine y (ev_assign rfl) rfl ?_
                    refine ynil' (kthn (hK52 _ _ ?_))
                    clear hK52
                    refine cblock ?_
                    refine cloop (A := Nat) (fun x => [(17, i64 x), (15, .slice (some ⟨b121, 0, none⟩) 144 cap121)]) (fun x => [sc b121 (bytesV (pad bs) ++ sp121) 5] ++ R) (fun x => bs.length ≤ x ∧ x ≤ 144) (fun x => 144 - x) (bs.length) ?_ (by repeat first | exact sub_nil | refine sub_cons rfl ?_ | refine sub_cons' rfl (by simp) ?_) (by repeat first | exact .refl | exact .nil | exact .z | apply Pk.s | apply Ge.pick | apply Ge.drop) ?_
                    · exact ⟨Nat.le_refl _, hbl⟩
                    rintro z hI3 KL3 hL3
                    obtain ⟨hz0, hz1⟩ := hI3
                    refine cseq ?_; intro K53 hK53
                    refine cseq ?_; intro K54 hK54
                    refine creg ?_
                    refine y (ev_move rfl) rfl ?_
                    refine y (ev_move rfl) rfl ?_
                    first
                      | refine y (ev_len rfl Try.underlying27) rfl ?_
                      | refine y (ev_lenSv rfl Try.underlying27 (by assumption)) rfl ?_
                      | refine y (ev_lenV rfl Try.underlying27 (RdV.lenVal (by assumption))) rfl ?_
                      | refine y (ev_lenV rfl Try.underlying27 (RdB.lenVal (by assumption))) rfl ?_
                    refine y (ev_lss rfl rfl) rfl ?_
                    refine ynil' (kthn (hK54 _ _ ?_))
                    clear hK54
                    refine ccond rfl (fun h281 => ?_) (fun h281 => ?_)
                    · (try simp only [decide_eq_true_eq, beq_iff_eq, beq_eq_false_iff_ne, decide_eq_decide, decide_eq_false_iff_not, Bool.not_eq_true', Bool.not_eq_false', Bool.not_eq_true, Bool.not_eq_false, Bool.not_not, ne_eq, Option.isNone_some, Option.isSome_some, Option.isNone_none, Option.isSome_none] at h281)
                      refine cskip' (kthn (hK53 _ _ ?_))
                      clear hK53
                      refine cseq ?_; intro K55 hK55
                      refine cblock ?_
                      refine cseq ?_; intro K56 hK56
                      refine creg ?_
                      refine y (ev_move rfl) rfl ?_
                      refine y (ev_move rfl) rfl ?_
                      first
                        | refine y (ev_ixAddr rfl rfl Try.underlying27 Try.sizeOf5 (by omega) (by omega)) rfl ?_
                        | refine y (ev_ixV (by assumption) rfl rfl Try.underlying27 Try.sizeOf5 (by omega) (by omega)) rfl ?_
                      refine y (ev_load rfl Try.isAgg5 (by repeat first | exact .z | apply In.s) (by rw [show 0 + (z : Int).toNat * 1 = z by simp]; exact pad_zero hz0 (by omega))) rfl ?_
                      refine y (ev_neq rfl rfl) rfl ?_
                      refine ynil' (kthn (hK56 _ _ ?_))
                      clear hK56
                      refine ccond rfl (fun h287 => ?_) (fun h287 => ?_)
                      · (try simp only [decide_eq_true_eq, beq_iff_eq, beq_eq_false_iff_ne, decide_eq_decide, decide_eq_false_iff_not, Bool.not_eq_true', Bool.not_eq_false', Bool.not_eq_true, Bool.not_eq_false, Bool.not_not, ne_eq, Option.isNone_some, Option.isSome_some, Option.isNone_none, Option.isSome_none] at h287)
                        refine cseq ?_; intro K57 hK57
                        refine creg ?_
                        refine y (ev_assign rfl) rfl ?_
                        refine ynil' (kthn (hK57 _ _ ?_))
                        clear hK57
                        refine cret (kbr (kthr (kthr (kbr (kthr ?_)))))
                        first
                          | (exfalso; omega; done)
                          | (refine kretv Try.results6 rfl (L1 := R) (by repeat first | exact .refl | exact .nil | exact .z | apply Pk.s | apply Ge.pick | apply Ge.drop) ?_
                             exact ⟨_, ⟨by first | rfl | (exfalso; omega; done) | (exfalso; simp_all; done) | (simp; omega) | simp_all, rfl⟩, by first | rfl | (exfalso; omega; done) | (exfalso; simp_all; done) | (simp; omega) | simp_all⟩)
                      · (try simp only [decide_eq_true_eq, beq_iff_eq, beq_eq_false_iff_ne, decide_eq_decide, decide_eq_false_iff_not, Bool.not_eq_true', Bool.not_eq_false', Bool.not_eq_true, Bool.not_eq_false, Bool.not_not, ne_eq, Option.isNone_some, Option.isSome_some, Option.isNone_none, Option.isSome_none] at h287)
                        refine cskip' (kbn (kthn (hK55 _ _ ?_)))
                        clear hK55
                        refine creg ?_
                        refine y (ev_move rfl) rfl ?_
                        refine y (ev_add rfl rfl) rfl ?_
                        rw [show IntKind.i64.wrap ((z:Int) + 1) = ((z+1 : Nat) : Int) by rw [wr (by omega) (by omega)]; rfl]
                        refine y (ev_assign rfl) rfl ?_
                        refine ynil' (kthn ?_)
                        exact hL3 (z + 1) (⟨by omega, by omega⟩) (by omega) _ _ (by repeat first | exact sub_nil | refine sub_cons rfl ?_ | refine sub_cons' rfl (by simp) ?_) (by repeat first | exact .refl | exact .nil | exact .z | apply Pk.s | apply Ge.pick | apply Ge.drop)
                    · (try simp only [decide_eq_true_eq, beq_iff_eq, beq_eq_false_iff_ne, decide_eq_decide, decide_eq_false_iff_not, Bool.not_eq_true', Bool.not_eq_false', Bool.not_eq_true, Bool.not_eq_false, Bool.not_not, ne_eq, Option.isNone_some, Option.isSome_some, Option.isNone_none, Option.isSome_none] at h281)
                      refine cexit (kthx (kthx (kbx (kthn (hK51 _ _ ?_)))))
                      clear hK51
                      refine cseq ?_; intro K58 hK58
                      refine creg ?_
                      refine y (ev_assign rfl) rfl ?_
                      refine ynil' (kthn (hK58 _ _ ?_))
                      clear hK58
                      refine cret ?_
                      first
                        | (exfalso; omega; done)
                        | (refine kretv Try.results6 rfl (L1 := R) (by repeat first | exact .refl | exact .nil | exact .z | apply Pk.s | apply Ge.pick | apply Ge.drop) ?_
                           exact ⟨_, ⟨by first | rfl | (exfalso; omega; done) | (exfalso; simp_all; done) | (simp; omega) | simp_all, rfl⟩, by first | rfl | (exfalso; omega; done) | (exfalso; simp_all; done) | (simp; omega) | simp_all⟩)
      · (try simp only [decide_eq_true_eq, beq_iff_eq, beq_eq_false_iff_ne, decide_eq_decide, decide_eq_false_iff_not, Bool.not_eq_true', Bool.not_eq_false', Bool.not_eq_true, Bool.not_eq_false, Bool.not_not, ne_eq, Option.isNone_some, Option.isSome_some, Option.isNone_none, Option.isSome_none] at h17)
        refine yg0 rfl rfl rfl rfl ?_
        refine yg0 rfl rfl rfl rfl ?_
        refine y (ev_pick0 rfl rfl) rfl ?_
        refine ynil' (kthn (hK11 _ _ ?_))
        clear hK11
        refine ccond0 rfl ?_
        refine cexit (kthx (kthx (kbx (kthn (hK8 _ _ ?_)))))
        clear hK8
        refine cseq ?_; intro K59 hK59
        refine creg ?_
        refine y (ev_move rfl) rfl ?_
        refine ycall (secCrash (ks := []) ?ok295 ?ks295) rfl Try.call25 (by repeat first | exact .nil | exact .z | apply Pk.s | apply Tk.cons) rfl ?_
        case ok295 => first | exact hU.ok | exact hD
        case ks295 => exact rdV_nil
        rintro v L' ⟨rfl, rfl⟩
        have hU := crash_up hD []
        rw [hn1] at hU
        generalize D.crash [] = D1 at hU ⊢
        refine ynil' (kthn (hK59 _ _ ?_))
        clear hK59
        refine cseq ?_; intro K60 hK60
        refine creg ?_
        refine y (ev_move rfl) rfl ?_
        refine y (ev_move rfl) rfl ?_
        refine y (ev_move rfl) rfl ?_
        refine ycall (secWrite (bs := bs) ?ok299 ?rd299) rfl Try.call18 (by repeat first | exact .nil | exact .z | apply Pk.s | apply Tk.cons) rfl ?_
        case ok299 => first | exact hU.ok | exact hD
        case rd299 => first | exact hact.bytes.mono (by repeat first | exact .refl | exact .nil | exact .z | apply Pk.s | apply Ge.pick | apply Ge.drop) | exact hb.mono (by repeat first | exact .refl | exact .nil | exact .z | apply Pk.s | apply Ge.pick | apply Ge.drop)
        rintro v L' ⟨rfl, rfl⟩
        have hrr : ((D1.write i bs).1 = 2 ∧ (i < 0 ∨ n ≤ i)) ∨ ((D1.write i bs).1 = 3 ∧ (144 : Int) < bs.length) ∨ (D1.write i bs).1 = 0 := by
          have := hU.write i bs
          rw [this]; split
          · left; exact ⟨rfl, by omega⟩
          · split
            · right; left; exact ⟨rfl, by assumption⟩
            · right; right; rfl
        have hU2 := hU.write_up i bs
        have hsw := hU.sec_write_same (i := i) (bs := bs)
        refine y (ev_assign rfl) rfl ?_
        refine ynil' (kthn (hK60 _ _ ?_))
        clear hK60
        refine cseq ?_; intro K61 hK61
        refine cseq ?_; intro K62 hK62
        refine creg ?_
        refine y (ev_move rfl) rfl ?_
        refine y (ev_neq rfl rfl) rfl ?_
        refine ynil' (kthn (hK62 _ _ ?_))
        clear hK62
        refine ccond rfl (fun h303 => ?_) (fun h303 => ?_)
        · (try simp only [decide_eq_true_eq, beq_iff_eq, beq_eq_false_iff_ne, decide_eq_decide, decide_eq_false_iff_not, Bool.not_eq_true', Bool.not_eq_false', Bool.not_eq_true, Bool.not_eq_false, Bool.not_not, ne_eq, Option.isNone_some, Option.isSome_some, Option.isNone_none, Option.isSome_none] at h303)
          refine cseq ?_; intro K63 hK63
          refine creg ?_
          refine y (ev_move rfl) rfl ?_
          refine y (ev_eql rfl rfl) rfl ?_
          refine y (ev_move rfl) rfl ?_
          refine ysplit 55 rfl (fun h307 => ?_) (fun h307 => ?_)
          · (try simp only [decide_eq_true_eq, beq_iff_eq, beq_eq_false_iff_ne, decide_eq_decide, decide_eq_false_iff_not, Bool.not_eq_true', Bool.not_eq_false', Bool.not_eq_true, Bool.not_eq_false, Bool.not_not, ne_eq, Option.isNone_some, Option.isSome_some, Option.isNone_none, Option.isSome_none] at h307)
            refine yg1 rfl rfl ?_
            refine y (ev_move rfl) rfl ?_
            refine yg1 rfl rfl ?_
            refine y (ev_lss rfl rfl) rfl ?_
            refine yg1 rfl rfl ?_
            refine y (ev_move rfl) rfl ?_
            refine ysplit 58 rfl (fun h311 => ?_) (fun h311 => ?_)
            · (try simp only [decide_eq_true_eq, beq_iff_eq, beq_eq_false_iff_ne, decide_eq_decide, decide_eq_false_iff_not, Bool.not_eq_true', Bool.not_eq_false', Bool.not_eq_true, Bool.not_eq_false, Bool.not_not, ne_eq, Option.isNone_some, Option.isSome_some, Option.isNone_none, Option.isSome_none] at h311)
              refine yg0 rfl rfl rfl rfl ?_
              refine yg0 rfl rfl rfl rfl ?_
              refine yg0 rfl rfl rfl rfl ?_
              refine yg1 rfl rfl ?_
              refine y (ev_pick1 rfl rfl) rfl ?_
              refine y (ev_pick1 rfl rfl) rfl ?_
              refine y (ev_move rfl) rfl ?_
              refine yg0 rfl rfl rfl rfl ?_
              refine yg0 rfl rfl rfl rfl ?_
              refine yg0 rfl rfl rfl rfl ?_
              refine yg0u rfl rfl rfl ?_
              refine yg0u rfl rfl rfl ?_
              refine yg0u rfl rfl rfl ?_
              refine yg0 rfl rfl rfl rfl ?_
              refine y (ev_pick1 rfl rfl) rfl ?_
              refine y (ev_assign rfl) rfl ?_
              refine ynil' (kthn (hK63 _ _ ?_))
              clear hK63
              refine cret (kthr ?_)
              first
                | (exfalso; omega; done)
                | (refine kretv Try.results6 rfl (L1 := R) (by repeat first | exact .refl | exact .nil | exact .z | apply Pk.s | apply Ge.pick | apply Ge.drop) ?_
                   exact ⟨_, ⟨by first | rfl | (exfalso; omega; done) | (exfalso; simp_all; done) | (simp; omega) | simp_all, rfl⟩, by first | rfl | (exfalso; omega; done) | (exfalso; simp_all; done) | (simp; omega) | simp_all⟩)
            · (try simp only [decide_eq_true_eq, beq_iff_eq, beq_eq_false_iff_ne, decide_eq_decide, decide_eq_false_iff_not, Bool.not_eq_true', Bool.not_eq_false', Bool.not_eq_true, Bool.not_eq_false, Bool.not_not, ne_eq, Option.isNone_some, Option.isSome_some, Option.isNone_none, Option.isSome_none] at h311)
              refine yg1 rfl rfl ?_
              refine y (ev_move rfl) rfl ?_
              refine yg1 rfl rfl ?_
              refine y (ev_move rfl) rfl ?_
              refine yg1 rfl rfl ?_
              refine y (ev_geq rfl rfl) rfl ?_
              refine yg1 rfl rfl ?_
              refine y (ev_pick0 rfl rfl) rfl ?_
              refine y (ev_pick1 rfl rfl) rfl ?_
              refine y (ev_move rfl) rfl ?_
              refine ysplit 64 rfl (fun h323 => ?_) (fun h323 => ?_)
              · (try simp only [decide_eq_true_eq, beq_iff_eq, beq_eq_false_iff_ne, decide_eq_decide, decide_eq_false_iff_not, Bool.not_eq_true', Bool.not_eq_false', Bool.not_eq_true, Bool.not_eq_false, Bool.not_not, ne_eq, Option.isNone_some, Option.isSome_some, Option.isNone_none, Option.isSome_none] at h323)
                refine yg0 rfl rfl rfl rfl ?_
                refine yg0 rfl rfl rfl rfl ?_
                refine yg0 rfl rfl rfl rfl ?_
                refine yg0u rfl rfl rfl ?_
                refine yg0u rfl rfl rfl ?_
                refine yg0u rfl rfl rfl ?_
                refine yg0 rfl rfl rfl rfl ?_
                refine y (ev_pick1 rfl rfl) rfl ?_
                refine y (ev_assign rfl) rfl ?_
                refine ynil' (kthn (hK63 _ _ ?_))
                clear hK63
                refine cret (kthr ?_)
                first
                  | (exfalso; omega; done)
                  | (refine kretv Try.results6 rfl (L1 := R) (by repeat first | exact .refl | exact .nil | exact .z | apply Pk.s | apply Ge.pick | apply Ge.drop) ?_
                     exact ⟨_, ⟨by first | rfl | (exfalso; omega; done) | (exfalso; simp_all; done) | (simp; omega) | simp_all, rfl⟩, by first | rfl | (exfalso; omega; done) | (exfalso; simp_all; done) | (simp; omega) | simp_all⟩)
              · (try simp only [decide_eq_true_eq, beq_iff_eq, beq_eq_false_iff_ne, decide_eq_decide, decide_eq_false_iff_not, Bool.not_eq_true', Bool.not_eq_false', Bool.not_eq_true, Bool.not_eq_false, Bool.not_not, ne_eq, Option.isNone_some, Option.isSome_some, Option.isNone_none, Option.isSome_none] at h323)
                refine yg1 rfl rfl ?_
                refine y (ev_move rfl) rfl ?_
                refine yg1 rfl rfl ?_
                refine y (ev_eql rfl rfl) rfl ?_
                refine yg1 rfl rfl ?_
                refine y (ev_move rfl) rfl ?_
                refine ysplit 67 rfl (fun h329 => ?_) (fun h329 => ?_)
                · (try simp only [decide_eq_true_eq, beq_iff_eq, beq_eq_false_iff_ne, decide_eq_decide, decide_eq_false_iff_not, Bool.not_eq_true', Bool.not_eq_false', Bool.not_eq_true, Bool.not_eq_false, Bool.not_not, ne_eq, Option.isNone_some, Option.isSome_some, Option.isNone_none, Option.isSome_none] at h329)
                  refine yg1 rfl rfl ?_
                  refine y (ev_move rfl) rfl ?_
                  refine yg1 rfl rfl ?_
                  first
                    | refine y (ev_len rfl Try.underlying27) rfl ?_
                    | refine y (ev_lenSv rfl Try.underlying27 (by assumption)) rfl ?_
                    | refine y (ev_lenV rfl Try.underlying27 (RdV.lenVal (by assumption))) rfl ?_
                    | refine y (ev_lenV rfl Try.underlying27 (RdB.lenVal (by assumption))) rfl ?_
                  refine yg1 rfl rfl ?_
                  refine y (ev_gtr rfl rfl) rfl ?_
                  refine yg1 rfl rfl ?_
                  refine y (ev_pick1 rfl rfl) rfl ?_
                  refine y (ev_pick0 rfl rfl) rfl ?_
                  refine y (ev_assign rfl) rfl ?_
                  refine ynil' (kthn (hK63 _ _ ?_))
                  clear hK63
                  refine cret (kthr ?_)
                  first
                    | (exfalso; omega; done)
                    | (refine kretv Try.results6 rfl (L1 := R) (by repeat first | exact .refl | exact .nil | exact .z | apply Pk.s | apply Ge.pick | apply Ge.drop) ?_
                       exact ⟨_, ⟨by first | rfl | (exfalso; omega; done) | (exfalso; simp_all; done) | (simp; omega) | simp_all, rfl⟩, by first | rfl | (exfalso; omega; done) | (exfalso; simp_all; done) | (simp; omega) | simp_all⟩)
                · (try simp only [decide_eq_true_eq, beq_iff_eq, beq_eq_false_iff_ne, decide_eq_decide, decide_eq_false_iff_not, Bool.not_eq_true', Bool.not_eq_false', Bool.not_eq_true, Bool.not_eq_false, Bool.not_not, ne_eq, Option.isNone_some, Option.isSome_some, Option.isNone_none, Option.isSome_none] at h329)
                  refine yg0 rfl rfl rfl rfl ?_
                  refine yg0 rfl rfl rfl rfl ?_
                  refine yg0 rfl rfl rfl rfl ?_
                  refine yg1 rfl rfl ?_
                  refine y (ev_pick0 rfl rfl) rfl ?_
                  refine y (ev_pick0 rfl rfl) rfl ?_
                  refine y (ev_assign rfl) rfl ?_
                  refine ynil' (kthn (hK63 _ _ ?_))
                  clear hK63
                  refine cret (kthr ?_)
                  first
                    | (exfalso; omega; done)
                    | (refine kretv Try.results6 rfl (L1 := R) (by repeat first | exact .refl | exact .nil | exact .z | apply Pk.s | apply Ge.pick | apply Ge.drop) ?_
                       exact ⟨_, ⟨by first | rfl | (exfalso; omega; done) | (exfalso; simp_all; done) | (simp; omega) | simp_all, rfl⟩, by first | rfl | (exfalso; omega; done) | (exfalso; simp_all; done) | (simp; omega) | simp_all⟩)
          · (try simp only [decide_eq_true_eq, beq_iff_eq, beq_eq_false_iff_ne, decide_eq_decide, decide_eq_false_iff_not, Bool.not_eq_true', Bool.not_eq_false', Bool.not_eq_true, Bool.not_eq_false, Bool.not_not, ne_eq, Option.isNone_some, Option.isSome_some, Option.isNone_none, Option.isSome_none] at h307)
            refine yg0 rfl rfl rfl rfl ?_
            refine yg0 rfl rfl rfl rfl ?_
            refine yg0 rfl rfl rfl rfl ?_
            refine yg0u rfl rfl rfl ?_
            refine yg0u rfl rfl rfl ?_
            refine yg0u rfl rfl rfl ?_
            refine yg0 rfl rfl rfl rfl ?_
            refine y (ev_pick0 rfl rfl) rfl ?_
            refine y (ev_move rfl) rfl ?_
            refine yg1 rfl rfl ?_
            refine y (ev_move rfl) rfl ?_
            refine yg1 rfl rfl ?_
            refine y (ev_eql rfl rfl) rfl ?_
            refine yg1 rfl rfl ?_
            refine y (ev_move rfl) rfl ?_
            refine ysplit 67 rfl (fun h344 => ?_) (fun h344 => ?_)
            · (try simp only [decide_eq_true_eq, beq_iff_eq, beq_eq_false_iff_ne, decide_eq_decide, decide_eq_false_iff_not, Bool.not_eq_true', Bool.not_eq_false', Bool.not_eq_true, Bool.not_eq_false, Bool.not_not, ne_eq, Option.isNone_some, Option.isSome_some, Option.isNone_none, Option.isSome_none] at h344)
              refine yg1 rfl rfl ?_
              refine y (ev_move rfl) rfl ?_
              refine yg1 rfl rfl ?_
              first
                | refine y (ev_len rfl Try.underlying27) rfl ?_
                | refine y (ev_lenSv rfl Try.underlying27 (by assumption)) rfl ?_
                | refine y (ev_lenV rfl Try.underlying27 (RdV.lenVal (by assumption))) rfl ?_
                | refine y (ev_lenV rfl Try.underlying27 (RdB.lenVal (by assumption))) rfl ?_
              refine yg1 rfl rfl ?_
              refine y (ev_gtr rfl rfl) rfl ?_
              refine yg1 rfl rfl ?_
              refine y (ev_pick1 rfl rfl) rfl ?_
              refine y (ev_pick0 rfl rfl) rfl ?_
              refine y (ev_assign rfl) rfl ?_
              refine ynil' (kthn (hK63 _ _ ?_))
              clear hK63
              refine cret (kthr ?_)
              first
                | (exfalso; omega; done)
                | (refine kretv Try.results6 rfl (L1 := R) (by repeat first | exact .refl | exact .nil | exact .z | apply Pk.s | apply Ge.pick | apply Ge.drop) ?_
                   exact ⟨_, ⟨by first | rfl | (exfalso; omega; done) | (exfalso; simp_all; done) | (simp; omega) | simp_all, rfl⟩, by first | rfl | (exfalso; omega; done) | (exfalso; simp_all; done) | (simp; omega) | simp_all⟩)
            · (try simp only [decide_eq_true_eq, beq_iff_eq, beq_eq_false_iff_ne, decide_eq_decide, decide_eq_false_iff_not, Bool.not_eq_true', Bool.not_eq_false', Bool.not_eq_true, Bool.not_eq_false, Bool.not_not, ne_eq, Option.isNone_some, Option.isSome_some, Option.isNone_none, Option.isSome_none] at h344)
              refine yg0 rfl rfl rfl rfl ?_
              refine yg0 rfl rfl rfl rfl ?_
              refine yg0 rfl rfl rfl rfl ?_
              refine yg1 rfl rfl ?_
              refine y (ev_pick0 rfl rfl) rfl ?_
              refine y (ev_pick0 rfl rfl) rfl ?_
              refine y (ev_assign rfl) rfl ?_
              refine ynil' (kthn (hK63 _ _ ?_))
              clear hK63
              refine cret (kthr ?_)
              first
                | (exfalso; omega; done)
                | (refine kretv Try.results6 rfl (L1 := R) (by repeat first | exact .refl | exact .nil | exact .z | apply Pk.s | apply Ge.pick | apply Ge.drop) ?_
                   exact ⟨_, ⟨by first | rfl | (exfalso; omega; done) | (exfalso; simp_all; done) | (simp; omega) | simp_all, rfl⟩, by first | rfl | (exfalso; omega; done) | (exfalso; simp_all; done) | (simp; omega) | simp_all⟩)
        · (try simp only [decide_eq_true_eq, beq_iff_eq, beq_eq_false_iff_ne, decide_eq_decide, decide_eq_false_iff_not, Bool.not_eq_true', Bool.not_eq_false', Bool.not_eq_true, Bool.not_eq_false, Bool.not_not, ne_eq, Option.isNone_some, Option.isSome_some, Option.isNone_none, Option.isSome_none] at h303)
          obtain ⟨hs, hi0, hi1, hbl⟩ := hsw h303
          refine cskip' (kthn (hK61 _ _ ?_))
          clear hK61
          refine cseq ?_; intro K64 hK64
          refine cseq ?_; intro K65 hK65
          refine creg ?_
          refine y (ev_assign rfl) rfl ?_
          refine ynil' (kthn (hK65 _ _ ?_))
          clear hK65
          refine cblock ?_
          refine cloop (A := Nat × Dev) (fun x => [(14, i64 x.1), (11, dp q), (4, mv), (2, i64 i), (3, bv)]) (fun x => [dev q x.2] ++ R) (fun x => Up x.2 n.toNat ∧ x.2.sec i = pad bs ∧ x.1 ≤ more.length ∧ x.1 ≤ 80) (fun x => more.length - x.1) ((0, (D1.write i bs).2)) ?_ (by repeat first | exact sub_nil | refine sub_cons rfl ?_ | refine sub_cons' rfl (by simp) ?_) (by repeat first | exact .refl | exact .nil | exact .z | apply Pk.s | apply Ge.pick | apply Ge.drop) ?_
          · exact ⟨hU2, hs, Nat.zero_le _, Nat.zero_le _⟩
          rintro ⟨k, D⟩ hI2 KL2 hL2
          have hI2o := hI2
          obtain ⟨hU, hs, hk1, hk2⟩ := hI2; dsimp only at hU hs hk1 hk2 ⊢
          refine cseq ?_; intro K66 hK66
          refine cseq ?_; intro K67 hK67
          refine creg ?_
          refine y (ev_move rfl) rfl ?_
          refine y (ev_move rfl) rfl ?_
          first
            | refine y (ev_len rfl Try.underlying22) rfl ?_
            | refine y (ev_lenSv rfl Try.underlying22 (by assumption)) rfl ?_
            | refine y (ev_lenV rfl Try.underlying22 (RdV.lenVal (by assumption))) rfl ?_
            | refine y (ev_lenV rfl Try.underlying22 (RdB.lenVal (by assumption))) rfl ?_
          refine y (ev_lss rfl rfl) rfl ?_
          refine y (ev_move rfl) rfl ?_
          refine ysplit 77 rfl (fun h360 => ?_) (fun h360 => ?_)
          · (try simp only [decide_eq_true_eq, beq_iff_eq, beq_eq_false_iff_ne, decide_eq_decide, decide_eq_false_iff_not, Bool.not_eq_true', Bool.not_eq_false', Bool.not_eq_true, Bool.not_eq_false, Bool.not_not, ne_eq, Option.isNone_some, Option.isSome_some, Option.isNone_none, Option.isSome_none] at h360)
            refine yg1 rfl rfl ?_
            refine y (ev_move rfl) rfl ?_
            refine yg1 rfl rfl ?_
            refine y (ev_lss rfl rfl) rfl ?_
            refine y (ev_pick1 rfl rfl) rfl ?_
            refine ynil' (kthn (hK67 _ _ ?_))
            clear hK67
            refine ccond rfl (fun h364 => ?_) (fun h364 => ?_)
            · (try simp only [decide_eq_true_eq, beq_iff_eq, beq_eq_false_iff_ne, decide_eq_decide, decide_eq_false_iff_not, Bool.not_eq_true', Bool.not_eq_false', Bool.not_eq_true, Bool.not_eq_false, Bool.not_not, ne_eq, Option.isNone_some, Option.isSome_some, Option.isNone_none, Option.isSome_none] at h364)
              obtain ⟨a, hka⟩ : ∃ a, more[k]? = some a := ⟨_, List.getElem?_eq_getElem (by omega)⟩
              have hact := hma a (List.mem_of_getElem? hka)
              obtain ⟨hc0, hc1, hc2, hc3⟩ := actsV_at hka
              refine cskip' (kthn (hK66 _ _ ?_))
              clear hK66
              refine cseq ?_; intro K68 hK68
              refine cblock ?_
              refine cseq ?_; intro K69 hK69
              refine cseq ?_; intro K70 hK70
              refine creg ?_
              refine y (ev_move rfl) rfl ?_
              refine y (ev_move rfl) rfl ?_
              first
                | refine y (ev_ixAddr rfl rfl Try.underlying22 Try.sizeOf30 (by omega) (by omega)) rfl ?_
                | refine y (ev_ixV (by assumption) rfl rfl Try.underlying22 Try.sizeOf30 (by omega) (by omega)) rfl ?_
              refine y (ev_fieldAddr 1 rfl Try.underlying30 rfl Try.sizeOf3) rfl ?_
              refine y (ev_loadV (k * 4 + 1) hm (by repeat first | exact .refl | exact .nil | exact .z | apply Pk.s | apply Ge.pick | apply Ge.drop) rfl Try.isAgg3 (by simp; omega) hc1) rfl ?_
              refine y (ev_move rfl) rfl ?_
              refine y (ev_neq rfl rfl) rfl ?_
              refine y (ev_move rfl) rfl ?_
              refine ysplit 90 rfl (fun h373 => ?_) (fun h373 => ?_)
              · (try simp only [decide_eq_true_eq, beq_iff_eq, beq_eq_false_iff_ne, decide_eq_decide, decide_eq_false_iff_not, Bool.not_eq_true', Bool.not_eq_false', Bool.not_eq_true, Bool.not_eq_false, Bool.not_not, ne_eq, Option.isNone_some, Option.isSome_some, Option.isNone_none, Option.isSome_none] at h373)
                refine yg1 rfl rfl ?_
                refine y (ev_move rfl) rfl ?_
                refine yg1 rfl rfl ?_
                refine y (ev_move rfl) rfl ?_
                refine yg1 rfl rfl ?_
                first
                  | refine y (ev_ixAddr rfl rfl Try.underlying22 Try.sizeOf30 (by omega) (by omega)) rfl ?_
                  | refine y (ev_ixV (by assumption) rfl rfl Try.underlying22 Try.sizeOf30 (by omega) (by omega)) rfl ?_
                refine yg1 rfl rfl ?_
                refine y (ev_loadNV (us := a.cells) (k * 4) hm (by repeat first | exact .refl | exact .nil | exact .z | apply Pk.s | apply Ge.pick | apply Ge.drop) rfl Try.isAgg30 Try.sizeOf30 (by simp) (actsV_get _ _ _ hka) rfl) rfl ?_
                refine yg1 rfl rfl ?_
                refine ycall (large ?act378) rfl Try.call21 (by repeat first | exact .nil | exact .z | apply Pk.s | apply Tk.cons) rfl ?_
                case act378 => exact hact.mono (by repeat first | exact .refl | exact .nil | exact .z | apply Pk.s | apply Ge.pick | apply Ge.drop)
                rintro v L' ⟨rfl, rfl⟩
                refine yg1 rfl rfl ?_
                refine y (ev_not rfl) rfl ?_
                refine y (ev_pick1 rfl rfl) rfl ?_
                refine ynil' (kthn (hK70 _ _ ?_))
                clear hK70
                refine ccond rfl (fun h381 => ?_) (fun h381 => ?_)
                · (try simp only [decide_eq_true_eq, beq_iff_eq, beq_eq_false_iff_ne, decide_eq_decide, decide_eq_false_iff_not, Bool.not_eq_true', Bool.not_eq_false', Bool.not_eq_true, Bool.not_eq_false, Bool.not_not, ne_eq, Option.isNone_some, Option.isSome_some, Option.isNone_none, Option.isSome_none] at h381)
                  refine cdraw 11 [(0, true), (1, true), (2, true), (3, true), (4, true), (5, true), (6, true), (7, true), (8, true), (9, true), (10, true)] (_) Try.mixed (by kernel_rfl) .refl ?_
                  refine hr rfl (ev_move rfl) rfl ?_
                  refine hr rfl (ev_move rfl) rfl ?_
                  refine hr rfl (ev_move rfl) rfl ?_
                  first
                    | refine hr rfl (ev_ixAddr rfl rfl Try.underlying22 Try.sizeOf30 (by omega) (by omega)) rfl ?_
                    | refine hr rfl (ev_ixV (by assumption) rfl rfl Try.underlying22 Try.sizeOf30 (by omega) (by omega)) rfl ?_
                  refine hr rfl (ev_fieldAddr 1 rfl Try.underlying30 rfl Try.sizeOf3) rfl ?_
                  refine hr rfl (ev_loadV (k * 4 + 1) hm (by repeat first | exact .refl | exact .nil | exact .z | apply Pk.s | apply Ge.pick | apply Ge.drop) rfl Try.isAgg3 (by simp; omega) hc1) rfl ?_
                  refine hr rfl (ev_move rfl) rfl ?_
                  refine hr rfl (ev_move rfl) rfl ?_
                  first
                    | refine hr rfl (ev_ixAddr rfl rfl Try.underlying22 Try.sizeOf30 (by omega) (by omega)) rfl ?_
                    | refine hr rfl (ev_ixV (by assumption) rfl rfl Try.underlying22 Try.sizeOf30 (by omega) (by omega)) rfl ?_
                  refine hr rfl (ev_fieldAddr 2 rfl Try.underlying30 rfl Try.sizeOf27) rfl ?_
                  refine hr rfl (ev_loadV (k * 4 + 2) hm (by repeat first | exact .refl | exact .nil | exact .z | apply Pk.s | apply Ge.pick | apply Ge.drop) rfl Try.isAgg27 (by simp; omega) hc2) rfl ?_
                  refine hnil ?_
                  refine ycall (secWrite (bs := a.bs) ?ok393 ?rd393) rfl Try.call18 (by repeat first | exact .nil | exact .z | apply Pk.s | apply Tk.cons) rfl ?_
                  case ok393 => first | exact hU.ok | exact hD
                  case rd393 => first | exact hact.bytes.mono (by repeat first | exact .refl | exact .nil | exact .z | apply Pk.s | apply Ge.pick | apply Ge.drop) | exact hb.mono (by repeat first | exact .refl | exact .nil | exact .z | apply Pk.s | apply Ge.pick | apply Ge.drop)
                  rintro v L' ⟨rfl, rfl⟩
                  have hs := (hU.sec_write_other (i := i) (j := a.i) (by assumption) a.bs).trans hs
                  have hU := hU.write_up a.i a.bs
                  refine hnoP' (kthn (hK69 _ _ ?_))
                  clear hK69
                  refine cseq ?_; intro K71 hK71
                  refine creg ?_
                  refine y (ev_move rfl) rfl ?_
                  refine y (ev_move rfl) rfl ?_
                  first
                    | refine y (ev_ixAddr rfl rfl Try.underlying22 Try.sizeOf30 (by omega) (by omega)) rfl ?_
                    | refine y (ev_ixV (by assumption) rfl rfl Try.underlying22 Try.sizeOf30 (by omega) (by omega)) rfl ?_
                  refine y (ev_fieldAddr 0 rfl Try.underlying30 rfl Try.sizeOf3) rfl ?_
                  refine y (ev_loadV (k * 4) hm (by repeat first | exact .refl | exact .nil | exact .z | apply Pk.s | apply Ge.pick | apply Ge.drop) rfl Try.isAgg3 (by simp) hc0) rfl ?_
                  refine y (ev_eql rfl rfl) rfl ?_
                  refine ynil' (kthn (hK71 _ _ ?_))
                  clear hK71
                  refine ccond rfl (fun h400 => ?_) (fun h400 => ?_)
                  · (try simp only [decide_eq_true_eq, beq_iff_eq, beq_eq_false_iff_ne, decide_eq_decide, decide_eq_false_iff_not, Bool.not_eq_true', Bool.not_eq_false', Bool.not_eq_true, Bool.not_eq_false, Bool.not_not, ne_eq, Option.isNone_some, Option.isSome_some, Option.isNone_none, Option.isSome_none] at h400)
                    refine creg ?_
                    refine y (ev_move rfl) rfl ?_
                    refine ycall (secBarrier ?ok402) rfl Try.call17 (by repeat first | exact .nil | exact .z | apply Pk.s | apply Tk.cons) rfl ?_
                    case ok402 => first | exact hU.ok | exact hD
                    rintro v L' ⟨rfl, rfl⟩
                    have hs := (hU.sec_barrier (i := i) hi0 (by omega)).trans hs
                    have hU := hU.barrier_up
                    refine ynil' (kbn (kthn (hK68 _ _ ?_)))
                    clear hK68
                    refine creg ?_
                    refine y (ev_move rfl) rfl ?_
                    refine y (ev_add rfl rfl) rfl ?_
                    rw [show IntKind.i64.wrap ((k:Int) + 1) = ((k+1 : Nat) : Int) by rw [wr (by omega) (by omega)]; rfl]
                    refine y (ev_assign rfl) rfl ?_
                    refine ynil' (kthn ?_)
                    first
                      | (exfalso; omega; done)
                      | exact hL2 (k + 1, _) ⟨hU, hs, by dsimp only; omega, by dsimp only; omega⟩ (by dsimp only; omega) _ _ (by repeat first | exact sub_nil | refine sub_cons rfl ?_ | refine sub_cons' rfl (by simp) ?_) (by repeat first | exact .refl | exact .nil | exact .z | apply Pk.s | apply Ge.pick | apply Ge.drop)
                  · (try simp only [decide_eq_true_eq, beq_iff_eq, beq_eq_false_iff_ne, decide_eq_decide, decide_eq_false_iff_not, Bool.not_eq_true', Bool.not_eq_false', Bool.not_eq_true, Bool.not_eq_false, Bool.not_not, ne_eq, Option.isNone_some, Option.isSome_some, Option.isNone_none, Option.isSome_none] at h400)
                    refine cskip' (kbn (kthn (hK68 _ _ ?_)))
                    clear hK68
                    refine creg ?_
                    refine y (ev_move rfl) rfl ?_
                    refine y (ev_add rfl rfl) rfl ?_
                    rw [show IntKind.i64.wrap ((k:Int) + 1) = ((k+1 : Nat) : Int) by rw [wr (by omega) (by omega)]; rfl]
                    refine y (ev_assign rfl) rfl ?_
                    refine ynil' (kthn ?_)
                    first
                      | (exfalso; omega; done)
                      | exact hL2 (k + 1, _) ⟨hU, hs, by dsimp only; omega, by dsimp only; omega⟩ (by dsimp only; omega) _ _ (by repeat first | exact sub_nil | refine sub_cons rfl ?_ | refine sub_cons' rfl (by simp) ?_) (by repeat first | exact .refl | exact .nil | exact .z | apply Pk.s | apply Ge.pick | apply Ge.drop)
                · (try simp only [decide_eq_true_eq, beq_iff_eq, beq_eq_false_iff_ne, decide_eq_decide, decide_eq_false_iff_not, Bool.not_eq_true', Bool.not_eq_false', Bool.not_eq_true, Bool.not_eq_false, Bool.not_not, ne_eq, Option.isNone_some, Option.isSome_some, Option.isNone_none, Option.isSome_none] at h381)
                  refine cskip' (kthn (hK69 _ _ ?_))
                  clear hK69
                  refine cseq ?_; intro K72 hK72
                  refine creg ?_
                  refine y (ev_move rfl) rfl ?_
                  refine y (ev_move rfl) rfl ?_
                  first
                    | refine y (ev_ixAddr rfl rfl Try.underlying22 Try.sizeOf30 (by omega) (by omega)) rfl ?_
                    | refine y (ev_ixV (by assumption) rfl rfl Try.underlying22 Try.sizeOf30 (by omega) (by omega)) rfl ?_
                  refine y (ev_fieldAddr 0 rfl Try.underlying30 rfl Try.sizeOf3) rfl ?_
                  refine y (ev_loadV (k * 4) hm (by repeat first | exact .refl | exact .nil | exact .z | apply Pk.s | apply Ge.pick | apply Ge.drop) rfl Try.isAgg3 (by simp) hc0) rfl ?_
                  refine y (ev_eql rfl rfl) rfl ?_
                  refine ynil' (kthn (hK72 _ _ ?_))
                  clear hK72
                  refine ccond rfl (fun h415 => ?_) (fun h415 => ?_)
                  · (try simp only [decide_eq_true_eq, beq_iff_eq, beq_eq_false_iff_ne, decide_eq_decide, decide_eq_false_iff_not, Bool.not_eq_true', Bool.not_eq_false', Bool.not_eq_true, Bool.not_eq_false, Bool.not_not, ne_eq, Option.isNone_some, Option.isSome_some, Option.isNone_none, Option.isSome_none] at h415)
                    refine creg ?_
                    refine y (ev_move rfl) rfl ?_
                    refine ycall (secBarrier ?ok417) rfl Try.call17 (by repeat first | exact .nil | exact .z | apply Pk.s | apply Tk.cons) rfl ?_
                    case ok417 => first | exact hU.ok | exact hD
                    rintro v L' ⟨rfl, rfl⟩
                    have hs := (hU.sec_barrier (i := i) hi0 (by omega)).trans hs
                    have hU := hU.barrier_up
                    refine ynil' (kbn (kthn (hK68 _ _ ?_)))
                    clear hK68
                    refine creg ?_
                    refine y (ev_move rfl) rfl ?_
                    refine y (ev_add rfl rfl) rfl ?_
                    rw [show IntKind.i64.wrap ((k:Int) + 1) = ((k+1 : Nat) : Int) by rw [wr (by omega) (by omega)]; rfl]
                    refine y (ev_assign rfl) rfl ?_
                    refine ynil' (kthn ?_)
                    first
                      | (exfalso; omega; done)
                      | exact hL2 (k + 1, _) ⟨hU, hs, by dsimp only; omega, by dsimp only; omega⟩ (by dsimp only; omega) _ _ (by repeat first | exact sub_nil | refine sub_cons rfl ?_ | refine sub_cons' rfl (by simp) ?_) (by repeat first | exact .refl | exact .nil | exact .z | apply Pk.s | apply Ge.pick | apply Ge.drop)
                  · (try simp only [decide_eq_true_eq, beq_iff_eq, beq_eq_false_iff_ne, decide_eq_decide, decide_eq_false_iff_not, Bool.not_eq_true', Bool.not_eq_false', Bool.not_eq_true, Bool.not_eq_false, Bool.not_not, ne_eq, Option.isNone_some, Option.isSome_some, Option.isNone_none, Option.isSome_none] at h415)
                    refine cskip' (kbn (kthn (hK68 _ _ ?_)))
                    clear hK68
                    refine creg ?_
                    refine y (ev_move rfl) rfl ?_
                    refine y (ev_add rfl rfl) rfl ?_
                    rw [show IntKind.i64.wrap ((k:Int) + 1) = ((k+1 : Nat) : Int) by rw [wr (by omega) (by omega)]; rfl]
                    refine y (ev_assign rfl) rfl ?_
                    refine ynil' (kthn ?_)
                    first
                      | (exfalso; omega; done)
                      | exact hL2 (k + 1, _) ⟨hU, hs, by dsimp only; omega, by dsimp only; omega⟩ (by dsimp only; omega) _ _ (by repeat first | exact sub_nil | refine sub_cons rfl ?_ | refine sub_cons' rfl (by simp) ?_) (by repeat first | exact .refl | exact .nil | exact .z | apply Pk.s | apply Ge.pick | apply Ge.drop)
              · (try simp only [decide_eq_true_eq, beq_iff_eq, beq_eq_false_iff_ne, decide_eq_decide, decide_eq_false_iff_not, Bool.not_eq_true', Bool.not_eq_false', Bool.not_eq_true, Bool.not_eq_false, Bool.not_not, ne_eq, Option.isNone_some, Option.isSome_some, Option.isNone_none, Option.isSome_none] at h373)
                refine yg0 rfl rfl rfl rfl ?_
                refine yg0 rfl rfl rfl rfl ?_
                refine yg0 rfl rfl rfl rfl ?_
                refine yg0 rfl rfl rfl rfl ?_
                refine yg0 rfl rfl rfl rfl ?_
                refine yg0 rfl rfl rfl rfl ?_
                refine y (ev_pick0 rfl rfl) rfl ?_
                refine ynil' (kthn (hK70 _ _ ?_))
                clear hK70
                refine ccond0 rfl ?_
                refine cskip' (kthn (hK69 _ _ ?_))
                clear hK69
                refine cseq ?_; intro K73 hK73
                refine creg ?_
                refine y (ev_move rfl) rfl ?_
                refine y (ev_move rfl) rfl ?_
                first
                  | refine y (ev_ixAddr rfl rfl Try.underlying22 Try.sizeOf30 (by omega) (by omega)) rfl ?_
                  | refine y (ev_ixV (by assumption) rfl rfl Try.underlying22 Try.sizeOf30 (by omega) (by omega)) rfl ?_
                refine y (ev_fieldAddr 0 rfl Try.underlying30 rfl Try.sizeOf3) rfl ?_
                refine y (ev_loadV (k * 4) hm (by repeat first | exact .refl | exact .nil | exact .z | apply Pk.s | apply Ge.pick | apply Ge.drop) rfl Try.isAgg3 (by simp) hc0) rfl ?_
                refine y (ev_eql rfl rfl) rfl ?_
                refine ynil' (kthn (hK73 _ _ ?_))
                clear hK73
                refine ccond rfl (fun h431 => ?_) (fun h431 => ?_)
                · (try simp only [decide_eq_true_eq, beq_iff_eq, beq_eq_false_iff_ne, decide_eq_decide, decide_eq_false_iff_not, Bool.not_eq_true', Bool.not_eq_false', Bool.not_eq_true, Bool.not_eq_false, Bool.not_not, ne_eq, Option.isNone_some, Option.isSome_some, Option.isNone_none, Option.isSome_none] at h431)
                  refine creg ?_
                  refine y (ev_move rfl) rfl ?_
                  refine ycall (secBarrier ?ok433) rfl Try.call17 (by repeat first | exact .nil | exact .z | apply Pk.s | apply Tk.cons) rfl ?_
                  case ok433 => first | exact hU.ok | exact hD
                  rintro v L' ⟨rfl, rfl⟩
                  have hs := (hU.sec_barrier (i := i) hi0 (by omega)).trans hs
                  have hU := hU.barrier_up
                  refine ynil' (kbn (kthn (hK68 _ _ ?_)))
                  clear hK68
                  refine creg ?_
                  refine y (ev_move rfl) rfl ?_
                  refine y (ev_add rfl rfl) rfl ?_
                  rw [show IntKind.i64.wrap ((k:Int) + 1) = ((k+1 : Nat) : Int) by rw [wr (by omega) (by omega)]; rfl]
                  refine y (ev_assign rfl) rfl ?_
                  refine ynil' (kthn ?_)
                  first
                    | (exfalso; omega; done)
                    | exact hL2 (k + 1, _) ⟨hU, hs, by dsimp only; omega, by dsimp only; omega⟩ (by dsimp only; omega) _ _ (by repeat first | exact sub_nil | refine sub_cons rfl ?_ | refine sub_cons' rfl (by simp) ?_) (by repeat first | exact .refl | exact .nil | exact .z | apply Pk.s | apply Ge.pick | apply Ge.drop)
                · (try simp only [decide_eq_true_eq, beq_iff_eq, beq_eq_false_iff_ne, decide_eq_decide, decide_eq_false_iff_not, Bool.not_eq_true', Bool.not_eq_false', Bool.not_eq_true, Bool.not_eq_false, Bool.not_not, ne_eq, Option.isNone_some, Option.isSome_some, Option.isNone_none, Option.isSome_none] at h431)
                  refine cskip' (kbn (kthn (hK68 _ _ ?_)))
                  clear hK68
                  refine creg ?_
                  refine y (ev_move rfl) rfl ?_
                  refine y (ev_add rfl rfl) rfl ?_
                  rw [show IntKind.i64.wrap ((k:Int) + 1) = ((k+1 : Nat) : Int) by rw [wr (by omega) (by omega)]; rfl]
                  refine y (ev_assign rfl) rfl ?_
                  refine ynil' (kthn ?_)
                  first
                    | (exfalso; omega; done)
                    | exact hL2 (k + 1, _) ⟨hU, hs, by dsimp only; omega, by dsimp only; omega⟩ (by dsimp only; omega) _ _ (by repeat first | exact sub_nil | refine sub_cons rfl ?_ | refine sub_cons' rfl (by simp) ?_) (by repeat first | exact .refl | exact .nil | exact .z | apply Pk.s | apply Ge.pick | apply Ge.drop)
            · (try simp only [decide_eq_true_eq, beq_iff_eq, beq_eq_false_iff_ne, decide_eq_decide, decide_eq_false_iff_not, Bool.not_eq_true', Bool.not_eq_false', Bool.not_eq_true, Bool.not_eq_false, Bool.not_not, ne_eq, Option.isNone_some, Option.isSome_some, Option.isNone_none, Option.isSome_none] at h364)
              refine cexit (kthx (kthx (kbx (kthn (hK64 _ _ ?_)))))
              clear hK64
              refine cseq ?_; intro K74 hK74
              refine creg ?_
              refine y (ev_move rfl) rfl ?_
              refine y (ev_move rfl) rfl ?_
              refine ycall (secReadOk hU.ok (by rw [hU.has]; exact if_neg (by omega))) rfl Try.call30 (by repeat first | exact .nil | exact .z | apply Pk.s | apply Tk.cons) rfl ?_
              rintro v L' ⟨b121, cap121, sp121, rfl, hc121, rfl⟩
              rw [hs]
              refine y (ev_move rfl) rfl ?_
              refine y (ev_extract rfl rfl) rfl ?_
              refine y (ev_extract rfl rfl) rfl ?_
              refine y (ev_assign rfl) rfl ?_
              refine y (ev_assign rfl) rfl ?_
              refine ynil' (kthn (hK74 _ _ ?_))
              clear hK74
              refine cseq ?_; intro K75 hK75
              refine cseq ?_; intro K76 hK76
              refine cdraw 16 [(0, true), (1, true), (2, true), (3, true), (4, true), (5, true), (6, true), (7, true), (8, true), (9, true), (10, true), (11, true), (12, true), (13, true), (14, true), (15, true)] (_) Try.mixed (by kernel_rfl) .refl ?_
              refine hr rfl (ev_move rfl) rfl ?_
              refine hr rfl (ev_neq rfl rfl) rfl ?_
              refine hr rfl (ev_move rfl) rfl ?_
              refine hsplit 126 rfl (fun h451 => ?_) (fun h451 => ?_)
              · (try simp only [decide_eq_true_eq, beq_iff_eq, beq_eq_false_iff_ne, decide_eq_decide, decide_eq_false_iff_not, Bool.not_eq_true', Bool.not_eq_false', Bool.not_eq_true, Bool.not_eq_false, Bool.not_not, ne_eq, Option.isNone_some, Option.isSome_some, Option.isNone_none, Option.isSome_none] at h451)
                refine hr0 rfl rfl rfl rfl rfl ?_
                refine hr0 rfl rfl rfl rfl rfl ?_
                refine hr0 rfl rfl rfl rfl rfl ?_
                refine hr rfl (ev_pick1 rfl rfl) rfl ?_
                refine hr rfl (ev_move rfl) rfl ?_
                refine hr0 rfl rfl rfl rfl rfl ?_
                refine hr0 rfl rfl rfl rfl rfl ?_
                refine hr0 rfl rfl rfl rfl rfl ?_
                refine hr0 rfl rfl rfl rfl rfl ?_
                refine hr0 rfl rfl rfl rfl rfl ?_
                refine hr0 rfl rfl rfl rfl rfl ?_
                refine hr0 rfl rfl rfl rfl rfl ?_
                refine hr0 rfl rfl rfl rfl rfl ?_
                refine hnil ?_
                refine y (ev_pick1 rfl rfl) rfl ?_
                refine hnoP' (kthn (hK76 _ _ ?_))
                clear hK76
                refine ccond1 rfl ?_
                refine cseq ?_; intro K77 hK77
                refine creg ?_
                refine y (ev_assign rfl) rfl ?_
                refine ynil' (kthn (hK77 _ _ ?_))
                clear hK77
                refine cret (kthr ?_)
                first
                  | (exfalso; omega; done)
                  | (refine kretv Try.results6 rfl (L1 := R) (by repeat first | exact .refl | exact .nil | exact .z | apply Pk.s | apply Ge.pick | apply Ge.drop) ?_
                     exact ⟨_, ⟨by first | rfl | (exfalso; omega; done) | (exfalso; simp_all; done) | (simp; omega) | simp_all, rfl⟩, by first | rfl | (exfalso; omega; done) | (exfalso; simp_all; done) | (simp; omega) | simp_all⟩)
              · (try simp only [decide_eq_true_eq, beq_iff_eq, beq_eq_false_iff_ne, decide_eq_decide, decide_eq_false_iff_not, Bool.not_eq_true', Bool.not_eq_false', Bool.not_eq_true, Bool.not_eq_false, Bool.not_not, ne_eq, Option.isNone_some, Option.isSome_some, Option.isNone_none, Option.isSome_none] at h451)
                refine hr1 rfl rfl rfl (ev_move rfl) rfl ?_
                first
                  | refine hr1 rfl rfl rfl (ev_len rfl Try.underlying27) rfl ?_
                  | refine hr1 rfl rfl rfl (ev_lenSv rfl Try.underlying27 (by assumption)) rfl ?_
                  | refine hr1 rfl rfl rfl (ev_lenV rfl Try.underlying27 (RdV.lenVal (by assumption))) rfl ?_
                  | refine hr1 rfl rfl rfl (ev_lenV rfl Try.underlying27 (RdB.lenVal (by assumption))) rfl ?_
                refine hr1 rfl rfl rfl (ev_neq rfl rfl) rfl ?_
                refine hr rfl (ev_pick0 rfl rfl) rfl ?_
                refine hr rfl (ev_move rfl) rfl ?_
                refine hsplit 131 rfl (fun h461 => ?_) (fun h461 => ?_)
                · (try simp only [decide_eq_true_eq, beq_iff_eq, beq_eq_false_iff_ne, decide_eq_decide, decide_eq_false_iff_not, Bool.not_eq_true', Bool.not_eq_false', Bool.not_eq_true, Bool.not_eq_false, Bool.not_not, ne_eq, Option.isNone_some, Option.isSome_some, Option.isNone_none, Option.isSome_none] at h461)
                  refine hr0 rfl rfl rfl rfl rfl ?_
                  refine hr0 rfl rfl rfl rfl rfl ?_
                  refine hr0 rfl rfl rfl rfl rfl ?_
                  refine hr0 rfl rfl rfl rfl rfl ?_
                  refine hr0 rfl rfl rfl rfl rfl ?_
                  refine hr0 rfl rfl rfl rfl rfl ?_
                  refine hr0 rfl rfl rfl rfl rfl ?_
                  refine hr0 rfl rfl rfl rfl rfl ?_
                  refine hnil ?_
                  refine y (ev_pick1 rfl rfl) rfl ?_
                  refine hnoP' (kthn (hK76 _ _ ?_))
                  clear hK76
                  refine ccond1 rfl ?_
                  refine cseq ?_; intro K78 hK78
                  refine creg ?_
                  refine y (ev_assign rfl) rfl ?_
                  refine ynil' (kthn (hK78 _ _ ?_))
                  clear hK78
                  refine cret (kthr ?_)
                  first
                    | (exfalso; omega; done)
                    | (refine kretv Try.results6 rfl (L1 := R) (by repeat first | exact .refl | exact .nil | exact .z | apply Pk.s | apply Ge.pick | apply Ge.drop) ?_
                       exact ⟨_, ⟨by first | rfl | (exfalso; omega; done) | (exfalso; simp_all; done) | (simp; omega) | simp_all, rfl⟩, by first | rfl | (exfalso; omega; done) | (exfalso; simp_all; done) | (simp; omega) | simp_all⟩)
                · (try simp only [decide_eq_true_eq, beq_iff_eq, beq_eq_false_iff_ne, decide_eq_decide, decide_eq_false_iff_not, Bool.not_eq_true', Bool.not_eq_false', Bool.not_eq_true, Bool.not_eq_false, Bool.not_not, ne_eq, Option.isNone_some, Option.isSome_some, Option.isNone_none, Option.isSome_none] at h461)
                  refine hr1 rfl rfl rfl (ev_move rfl) rfl ?_
                  refine hr1 rfl rfl rfl (ev_move rfl) rfl ?_
                  first
                    | refine hr1 rfl rfl rfl (ev_len rfl Try.underlying27) rfl ?_
                    | refine hr1 rfl rfl rfl (ev_lenSv rfl Try.underlying27 (by assumption)) rfl ?_
                    | refine hr1 rfl rfl rfl (ev_lenV rfl Try.underlying27 (RdV.lenVal (by assumption))) rfl ?_
                    | refine hr1 rfl rfl rfl (ev_lenV rfl Try.underlying27 (RdB.lenVal (by assumption))) rfl ?_
                  refine hr1 rfl rfl rfl (ev_slH rfl rfl Try.underlying27 Try.sizeOf5 (by omega) (by omega)) rfl ?_
                  refine hr1 rfl rfl rfl (ev_toStr (bs := bs) rfl Try.underlying27 Try.underlying9 Try.underlying5 (by simp) (by repeat first | exact .z | apply In.s) pad_take) rfl ?_
                  refine hr1 rfl rfl rfl (ev_move rfl) rfl ?_
                  refine hr1 rfl rfl rfl (ev_toStrB hb (by repeat first | exact .refl | exact .nil | exact .z | apply Pk.s | apply Ge.pick | apply Ge.drop) rfl Try.underlying27 Try.underlying9 Try.underlying5) rfl ?_
                  first
                    | refine hr1 rfl rfl rfl (ev_neqL rfl rfl) rfl ?_
                    | refine hr1 rfl rfl rfl (ev_neqS rfl rfl) rfl ?_
                  refine hnil ?_
                  refine y (ev_pick0 rfl rfl) rfl ?_
                  refine hnoP' (kthn (hK76 _ _ ?_))
                  clear hK76
                  refine ccond rfl (fun h473 => ?_) (fun h473 => ?_)
                  · (try simp only [decide_eq_true_eq, beq_iff_eq, beq_eq_false_iff_ne, decide_eq_decide, decide_eq_false_iff_not, Bool.not_eq_true', Bool.not_eq_false', Bool.not_eq_true, Bool.not_eq_false, Bool.not_not, ne_eq, Option.isNone_some, Option.isSome_some, Option.isNone_none, Option.isSome_none] at h473)
                    refine cseq ?_; intro K79 hK79
                    refine creg ?_
                    refine y (ev_assign rfl) rfl ?_
                    refine ynil' (kthn (hK79 _ _ ?_))
                    clear hK79
                    refine cret (kthr ?_)
                    first
                      | (exfalso; omega; done)
                      | (refine kretv Try.results6 rfl (L1 := R) (by repeat first | exact .refl | exact .nil | exact .z | apply Pk.s | apply Ge.pick | apply Ge.drop) ?_
                         exact ⟨_, ⟨by first | rfl | (exfalso; omega; done) | (exfalso; simp_all; done) | (simp; omega) | simp_all, rfl⟩, by first | rfl | (exfalso; omega; done) | (exfalso; simp_all; done) | (simp; omega) | simp_all⟩)
                  · (try simp only [decide_eq_true_eq, beq_iff_eq, beq_eq_false_iff_ne, decide_eq_decide, decide_eq_false_iff_not, Bool.not_eq_true', Bool.not_eq_false', Bool.not_eq_true, Bool.not_eq_false, Bool.not_not, ne_eq, Option.isNone_some, Option.isSome_some, Option.isNone_none, Option.isSome_none] at h473)
                    refine cskip' (kthn (hK75 _ _ ?_))
                    clear hK75
                    refine cseq ?_; intro K80 hK80
                    refine cseq ?_; intro K81 hK81
                    refine creg ?_
                    refine y (ev_move rfl) rfl ?_
                    first
                      | refine y (ev_len rfl Try.underlying27) rfl ?_
                      | refine y (ev_lenSv rfl Try.underlying27 (by assumption)) rfl ?_
                      | refine y (ev_lenV rfl Try.underlying27 (RdV.lenVal (by assumption))) rfl ?_
                      | refine y (ev_lenV rfl Try.underlying27 (RdB.lenVal (by assumption))) rfl ?_
                    refine y (ev_assign rfl) rfl ?_
                    refine ynil' (kthn (hK81 _ _ ?_))
                    clear hK81
                    refine cblock ?_
                    refine cloop (A := Nat) (fun x => [(17, i64 x), (15, .slice (some ⟨b121, 0, none⟩) 144 cap121)]) (fun x => [sc b121 (bytesV (pad bs) ++ sp121) 5] ++ R) (fun x => bs.length ≤ x ∧ x ≤ 144) (fun x => 144 - x) (bs.length) ?_ (by repeat first | exact sub_nil | refine sub_cons rfl ?_ | refine sub_cons' rfl (by simp) ?_) (by repeat first | exact .refl | exact .nil | exact .z | apply Pk.s | apply Ge.pick | apply Ge.drop) ?_
                    · exact ⟨Nat.le_refl _, hbl⟩
                    rintro z hI3 KL3 hL3
                    obtain ⟨hz0, hz1⟩ := hI3
                    refine cseq ?_; intro K82 hK82
                    refine cseq ?_; intro K83 hK83
                    refine creg ?_
                    refine y (ev_move rfl) rfl ?_
                    refine y (ev_move rfl) rfl ?_
                    first
                      | refine y (ev_len rfl Try.underlying27) rfl ?_
                      | refine y (ev_lenSv rfl Try.underlying27 (by assumption)) rfl ?_
                      | refine y (ev_lenV rfl Try.underlying27 (RdV.lenVal (by assumption))) rfl ?_
                      | refine y (ev_lenV rfl Try.underlying27 (RdB.lenVal (by assumption))) rfl ?_
                    refine y (ev_lss rfl rfl) rfl ?_
                    refine ynil' (kthn (hK83 _ _ ?_))
                    clear hK83
                    refine ccond rfl (fun h482 => ?_) (fun h482 => ?_)
                    · (try simp only [decide_eq_true_eq, beq_iff_eq, beq_eq_false_iff_ne, decide_eq_decide, decide_eq_false_iff_not, Bool.not_eq_true', Bool.not_eq_false', Bool.not_eq_true, Bool.not_eq_false, Bool.not_not, ne_eq, Option.isNone_some, Option.isSome_some, Option.isNone_none, Option.isSome_none] at h482)
                      refine cskip' (kthn (hK82 _ _ ?_))
                      clear hK82
                      refine cseq ?_; intro K84 hK84
                      refine cblock ?_
                      refine cseq ?_; intro K85 hK85
                      refine creg ?_
                      refine y (ev_move rfl) rfl ?_
                      refine y (ev_move rfl) rfl ?_
                      first
                        | refine y (ev_ixAddr rfl rfl Try.underlying27 Try.sizeOf5 (by omega) (by omega)) rfl ?_
                        | refine y (ev_ixV (by assumption) rfl rfl Try.underlying27 Try.sizeOf5 (by omega) (by omega)) rfl ?_
                      refine y (ev_load rfl Try.isAgg5 (by repeat first | exact .z | apply In.s) (by rw [show 0 + (z : Int).toNat * 1 = z by simp]; exact pad_zero hz0 (by omega))) rfl ?_
                      refine y (ev_neq rfl rfl) rfl ?_
                      refine ynil' (kthn (hK85 _ _ ?_))
                      clear hK85
                      refine ccond rfl (fun h488 => ?_) (fun h488 => ?_)
                      · (try simp only [decide_eq_true_eq, beq_iff_eq, beq_eq_false_iff_ne, decide_eq_decide, decide_eq_false_iff_not, Bool.not_eq_true', Bool.not_eq_false', Bool.not_eq_true, Bool.not_eq_false, Bool.not_not, ne_eq, Option.isNone_some, Option.isSome_some, Option.isNone_none, Option.isSome_none] at h488)
                        refine cseq ?_; intro K86 hK86
                        refine creg ?_
                        refine y (ev_assign rfl) rfl ?_
                        refine ynil' (kthn (hK86 _ _ ?_))
                        clear hK86
                        refine cret (kbr (kthr (kthr (kbr (kthr ?_)))))
                        first
                          | (exfalso; omega; done)
                          | (refine kretv Try.results6 rfl (L1 := R) (by repeat first | exact .refl | exact .nil | exact .z | apply Pk.s | apply Ge.pick | apply Ge.drop) ?_
                             exact ⟨_, ⟨by first | rfl | (exfalso; omega; done) | (exfalso; simp_all; done) | (simp; omega) | simp_all, rfl⟩, by first | rfl | (exfalso; omega; done) | (exfalso; simp_all; done) | (simp; omega) | simp_all⟩)
                      · (try simp only [decide_eq_true_eq, beq_iff_eq, beq_eq_false_iff_ne, decide_eq_decide, decide_eq_false_iff_not, Bool.not_eq_true', Bool.not_eq_false', Bool.not_eq_true, Bool.not_eq_false, Bool.not_not, ne_eq, Option.isNone_some, Option.isSome_some, Option.isNone_none, Option.isSome_none] at h488)
                        refine cskip' (kbn (kthn (hK84 _ _ ?_)))
                        clear hK84
                        refine creg ?_
                        refine y (ev_move rfl) rfl ?_
                        refine y (ev_add rfl rfl) rfl ?_
                        rw [show IntKind.i64.wrap ((z:Int) + 1) = ((z+1 : Nat) : Int) by rw [wr (by omega) (by omega)]; rfl]
                        refine y (ev_assign rfl) rfl ?_
                        refine ynil' (kthn ?_)
                        exact hL3 (z + 1) (⟨by omega, by omega⟩) (by omega) _ _ (by repeat first | exact sub_nil | refine sub_cons rfl ?_ | refine sub_cons' rfl (by simp) ?_) (by repeat first | exact .refl | exact .nil | exact .z | apply Pk.s | apply Ge.pick | apply Ge.drop)
                    · (try simp only [decide_eq_true_eq, beq_iff_eq, beq_eq_false_iff_ne, decide_eq_decide, decide_eq_false_iff_not, Bool.not_eq_true', Bool.not_eq_false', Bool.not_eq_true, Bool.not_eq_false, Bool.not_not, ne_eq, Option.isNone_some, Option.isSome_some, Option.isNone_none, Option.isSome_none] at h482)
                      refine cexit (kthx (kthx (kbx (kthn (hK80 _ _ ?_)))))
                      clear hK80
                      refine cseq ?_; intro K87 hK87
                      refine creg ?_
                      refine y (ev_assign rfl) rfl ?_
                      refine ynil' (kthn (hK87 _ _ ?_))
                      clear hK87
                      refine cret ?_
                      first
                        | (exfalso; omega; done)
                        | (refine kretv Try.results6 rfl (L1 := R) (by repeat first | exact .refl | exact .nil | exact .z | apply Pk.s | apply Ge.pick | apply Ge.drop) ?_
                           exact ⟨_, ⟨by first | rfl | (exfalso; omega; done) | (exfalso; simp_all; done) | (simp; omega) | simp_all, rfl⟩, by first | rfl | (exfalso; omega; done) | (exfalso; simp_all; done) | (simp; omega) | simp_all⟩)
          · (try simp only [decide_eq_true_eq, beq_iff_eq, beq_eq_false_iff_ne, decide_eq_decide, decide_eq_false_iff_not, Bool.not_eq_true', Bool.not_eq_false', Bool.not_eq_true, Bool.not_eq_false, Bool.not_not, ne_eq, Option.isNone_some, Option.isSome_some, Option.isNone_none, Option.isSome_none] at h360)
            refine yg0 rfl rfl rfl rfl ?_
            refine yg0 rfl rfl rfl rfl ?_
            refine y (ev_pick0 rfl rfl) rfl ?_
            refine ynil' (kthn (hK67 _ _ ?_))
            clear hK67
            refine ccond0 rfl ?_
            refine cexit (kthx (kthx (kbx (kthn (hK64 _ _ ?_)))))
            clear hK64
            refine cseq ?_; intro K88 hK88
            refine creg ?_
            refine y (ev_move rfl) rfl ?_
            refine y (ev_move rfl) rfl ?_
            refine ycall (secReadOk hU.ok (by rw [hU.has]; exact if_neg (by omega))) rfl Try.call30 (by repeat first | exact .nil | exact .z | apply Pk.s | apply Tk.cons) rfl ?_
            rintro v L' ⟨b121, cap121, sp121, rfl, hc121, rfl⟩
            rw [hs]
            refine y (ev_move rfl) rfl ?_
            refine y (ev_extract rfl rfl) rfl ?_
            refine y (ev_extract rfl rfl) rfl ?_
            refine y (ev_assign rfl) rfl ?_
            refine y (ev_assign rfl) rfl ?_
            refine ynil' (kthn (hK88 _ _ ?_))
            clear hK88
            refine cseq ?_; intro K89 hK89
            refine cseq ?_; intro K90 hK90
            refine cdraw 16 [(0, true), (1, true), (2, true), (3, true), (4, true), (5, true), (6, true), (7, true), (8, true), (9, true), (10, true), (11, true), (12, true), (13, true), (14, true), (15, true)] (_) Try.mixed (by kernel_rfl) .refl ?_
            refine hr rfl (ev_move rfl) rfl ?_
            refine hr rfl (ev_neq rfl rfl) rfl ?_
            refine hr rfl (ev_move rfl) rfl ?_
            refine hsplit 126 rfl (fun h506 => ?_) (fun h506 => ?_)
            · (try simp only [decide_eq_true_eq, beq_iff_eq, beq_eq_false_iff_ne, decide_eq_decide, decide_eq_false_iff_not, Bool.not_eq_true', Bool.not_eq_false', Bool.not_eq_true, Bool.not_eq_false, Bool.not_not, ne_eq, Option.isNone_some, Option.isSome_some, Option.isNone_none, Option.isSome_none] at h506)
              refine hr0 rfl rfl rfl rfl rfl ?_
              refine hr0 rfl rfl rfl rfl rfl ?_
              refine hr0 rfl rfl rfl rfl rfl ?_
              refine hr rfl (ev_pick1 rfl rfl) rfl ?_
              refine hr rfl (ev_move rfl) rfl ?_
              refine hr0 rfl rfl rfl rfl rfl ?_
              refine hr0 rfl rfl rfl rfl rfl ?_
              refine hr0 rfl rfl rfl rfl rfl ?_
              refine hr0 rfl rfl rfl rfl rfl ?_
              refine hr0 rfl rfl rfl rfl rfl ?_
              refine hr0 rfl rfl rfl rfl rfl ?_
              refine hr0 rfl rfl rfl rfl rfl ?_
              refine hr0 rfl rfl rfl rfl rfl ?_
              refine hnil ?_
              refine y (ev_pick1 rfl rfl) rfl ?_
              refine hnoP' (kthn (hK90 _ _ ?_))
              clear hK90
              refine ccond1 rfl ?_
              refine cseq ?_; intro K91 hK91
              refine creg ?_
              refine y (ev_assign rfl) rfl ?_
              refine ynil' (kthn (hK91 _ _ ?_))
              clear hK91
              refine cret (kthr ?_)
              first
                | (exfalso; omega; done)
                | (refine kretv Try.results6 rfl (L1 := R) (by repeat first | exact .refl | exact .nil | exact .z | apply Pk.s | apply Ge.pick | apply Ge.drop) ?_
                   exact ⟨_, ⟨by first | rfl | (exfalso; omega; done) | (exfalso; simp_all; done) | (simp; omega) | simp_all, rfl⟩, by first | rfl | (exfalso; omega; done) | (exfalso; simp_all; done) | (simp; omega) | simp_all⟩)
            · (try simp only [decide_eq_true_eq, beq_iff_eq, beq_eq_false_iff_ne, decide_eq_decide, decide_eq_false_iff_not, Bool.not_eq_true', Bool.not_eq_false', Bool.not_eq_true, Bool.not_eq_false, Bool.not_not, ne_eq, Option.isNone_some, Option.isSome_some, Option.isNone_none, Option.isSome_none] at h506)
              refine hr1 rfl rfl rfl (ev_move rfl) rfl ?_
              first
                | refine hr1 rfl rfl rfl (ev_len rfl Try.underlying27) rfl ?_
                | refine hr1 rfl rfl rfl (ev_lenSv rfl Try.underlying27 (by assumption)) rfl ?_
                | refine hr1 rfl rfl rfl (ev_lenV rfl Try.underlying27 (RdV.lenVal (by assumption))) rfl ?_
                | refine hr1 rfl rfl rfl (ev_lenV rfl Try.underlying27 (RdB.lenVal (by assumption))) rfl ?_
              refine hr1 rfl rfl rfl (ev_neq rfl rfl) rfl ?_
              refine hr rfl (ev_pick0 rfl rfl) rfl ?_
              refine hr rfl (ev_move rfl) rfl ?_
              refine hsplit 131 rfl (fun h516 => ?_) (fun h516 => ?_)
              · (try simp only [decide_eq_true_eq, beq_iff_eq, beq_eq_false_iff_ne, decide_eq_decide, decide_eq_false_iff_not, Bool.not_eq_true', Bool.not_eq_false', Bool.not_eq_true, Bool.not_eq_false, Bool.not_not, ne_eq, Option.isNone_some, Option.isSome_some, Option.isNone_none, Option.isSome_none] at h516)
                refine hr0 rfl rfl rfl rfl rfl ?_
                refine hr0 rfl rfl rfl rfl rfl ?_
                refine hr0 rfl rfl rfl rfl rfl ?_
                refine hr0 rfl rfl rfl rfl rfl ?_
                refine hr0 rfl rfl rfl rfl rfl ?_
                refine hr0 rfl rfl rfl rfl rfl ?_
                refine hr0 rfl rfl rfl rfl rfl ?_
                refine hr0 rfl rfl rfl rfl rfl ?_
                refine hnil ?_
                refine y (ev_pick1 rfl rfl) rfl ?_
                refine hnoP' (kthn (hK90 _ _ ?_))
                clear hK90
                refine ccond1 rfl ?_
                refine cseq ?_; intro K92 hK92
                refine creg ?_
                refine y (ev_assign rfl) rfl ?_
                refine ynil' (kthn (hK92 _ _ ?_))
                clear hK92
                refine cret (kthr ?_)
                first
                  | (exfalso; omega; done)
                  | (refine kretv Try.results6 rfl (L1 := R) (by repeat first | exact .refl | exact .nil | exact .z | apply Pk.s | apply Ge.pick | apply Ge.drop) ?_
                     exact ⟨_, ⟨by first | rfl | (exfalso; omega; done) | (exfalso; simp_all; done) | (simp; omega) | simp_all, rfl⟩, by first | rfl | (exfalso; omega; done) | (exfalso; simp_all; done) | (simp; omega) | simp_all⟩)
              · (try simp only [decide_eq_true_eq, beq_iff_eq, beq_eq_false_iff_ne, decide_eq_decide, decide_eq_false_iff_not, Bool.not_eq_true', Bool.not_eq_false', Bool.not_eq_true, Bool.not_eq_false, Bool.not_not, ne_eq, Option.isNone_some, Option.isSome_some, Option.isNone_none, Option.isSome_none] at h516)
                refine hr1 rfl rfl rfl (ev_move rfl) rfl ?_
                refine hr1 rfl rfl rfl (ev_move rfl) rfl ?_
                first
                  | refine hr1 rfl rfl rfl (ev_len rfl Try.underlying27) rfl ?_
                  | refine hr1 rfl rfl rfl (ev_lenSv rfl Try.underlying27 (by assumption)) rfl ?_
                  | refine hr1 rfl rfl rfl (ev_lenV rfl Try.underlying27 (RdV.lenVal (by assumption))) rfl ?_
                  | refine hr1 rfl rfl rfl (ev_lenV rfl Try.underlying27 (RdB.lenVal (by assumption))) rfl ?_
                refine hr1 rfl rfl rfl (ev_slH rfl rfl Try.underlying27 Try.sizeOf5 (by omega) (by omega)) rfl ?_
                refine hr1 rfl rfl rfl (ev_toStr (bs := bs) rfl Try.underlying27 Try.underlying9 Try.underlying5 (by simp) (by repeat first | exact .z | apply In.s) pad_take) rfl ?_
                refine hr1 rfl rfl rfl (ev_move rfl) rfl ?_
                refine hr1 rfl rfl rfl (ev_toStrB hb (by repeat first | exact .refl | exact .nil | exact .z | apply Pk.s | apply Ge.pick | apply Ge.drop) rfl Try.underlying27 Try.underlying9 Try.underlying5) rfl ?_
                first
                  | refine hr1 rfl rfl rfl (ev_neqL rfl rfl) rfl ?_
                  | refine hr1 rfl rfl rfl (ev_neqS rfl rfl) rfl ?_
                refine hnil ?_
                refine y (ev_pick0 rfl rfl) rfl ?_
                refine hnoP' (kthn (hK90 _ _ ?_))
                clear hK90
                refine ccond rfl (fun h528 => ?_) (fun h528 => ?_)
                · (try simp only [decide_eq_true_eq, beq_iff_eq, beq_eq_false_iff_ne, decide_eq_decide, decide_eq_false_iff_not, Bool.not_eq_true', Bool.not_eq_false', Bool.not_eq_true, Bool.not_eq_false, Bool.not_not, ne_eq, Option.isNone_some, Option.isSome_some, Option.isNone_none, Option.isSome_none] at h528)
                  refine cseq ?_; intro K93 hK93
                  refine creg ?_
                  refine y (ev_assign rfl) rfl ?_
                  refine ynil' (kthn (hK93 _ _ ?_))
                  clear hK93
                  refine cret (kthr ?_)
                  first
                    | (exfalso; omega; done)
                    | (refine kretv Try.results6 rfl (L1 := R) (by repeat first | exact .refl | exact .nil | exact .z | apply Pk.s | apply Ge.pick | apply Ge.drop) ?_
                       exact ⟨_, ⟨by first | rfl | (exfalso; omega; done) | (exfalso; simp_all; done) | (simp; omega) | simp_all, rfl⟩, by first | rfl | (exfalso; omega; done) | (exfalso; simp_all; done) | (simp; omega) | simp_all⟩)
                · (try simp only [decide_eq_true_eq, beq_iff_eq, beq_eq_false_iff_ne, decide_eq_decide, decide_eq_false_iff_not, Bool.not_eq_true', Bool.not_eq_false', Bool.not_eq_true, Bool.not_eq_false, Bool.not_not, ne_eq, Option.isNone_some, Option.isSome_some, Option.isNone_none, Option.isSome_none] at h528)
                  refine cskip' (kthn (hK89 _ _ ?_))
                  clear hK89
                  refine cseq ?_; intro K94 hK94
                  refine cseq ?_; intro K95 hK95
                  refine creg ?_
                  refine y (ev_move rfl) rfl ?_
                  first
                    | refine y (ev_len rfl Try.underlying27) rfl ?_
                    | refine y (ev_lenSv rfl Try.underlying27 (by assumption)) rfl ?_
                    | refine y (ev_lenV rfl Try.underlying27 (RdV.lenVal (by assumption))) rfl ?_
                    | refine y (ev_lenV rfl Try.underlying27 (RdB.lenVal (by assumption))) rfl ?_
                  refine y (ev_assign rfl) rfl ?_
                  refine ynil' (kthn (hK95 _ _ ?_))
                  clear hK95
                  refine cblock ?_
                  refine cloop (A := Nat) (fun x => [(17, i64 x), (15, .slice (some ⟨b121, 0, none⟩) 144 cap121)]) (fun x => [sc b121 (bytesV (pad bs) ++ sp121) 5] ++ R) (fun x => bs.length ≤ x ∧ x ≤ 144) (fun x => 144 - x) (bs.length) ?_ (by repeat first | exact sub_nil | refine sub_cons rfl ?_ | refine sub_cons' rfl (by simp) ?_) (by repeat first | exact .refl | exact .nil | exact .z | apply Pk.s | apply Ge.pick | apply Ge.drop) ?_
                  · exact ⟨Nat.le_refl _, hbl⟩
                  rintro z hI3 KL3 hL3
                  obtain ⟨hz0, hz1⟩ := hI3
                  refine cseq ?_; intro K96 hK96
                  refine cseq ?_; intro K97 hK97
                  refine creg ?_
                  refine y (ev_move rfl) rfl ?_
                  refine y (ev_move rfl) rfl ?_
                  first
                    | refine y (ev_len rfl Try.underlying27) rfl ?_
                    | refine y (ev_lenSv rfl Try.underlying27 (by assumption)) rfl ?_
                    | refine y (ev_lenV rfl Try.underlying27 (RdV.lenVal (by assumption))) rfl ?_
                    | refine y (ev_lenV rfl Try.underlying27 (RdB.lenVal (by assumption))) rfl ?_
                  refine y (ev_lss rfl rfl) rfl ?_
                  refine ynil' (kthn (hK97 _ _ ?_))
                  clear hK97
                  refine ccond rfl (fun h537 => ?_) (fun h537 => ?_)
                  · (try simp only [decide_eq_true_eq, beq_iff_eq, beq_eq_false_iff_ne, decide_eq_decide, decide_eq_false_iff_not, Bool.not_eq_true', Bool.not_eq_false', Bool.not_eq_true, Bool.not_eq_false, Bool.not_not, ne_eq, Option.isNone_some, Option.isSome_some, Option.isNone_none, Option.isSome_none] at h537)
                    refine cskip' (kthn (hK96 _ _ ?_))
                    clear hK96
                    refine cseq ?_; intro K98 hK98
                    refine cblock ?_
                    refine cseq ?_; intro K99 hK99
                    refine creg ?_
                    refine y (ev_move rfl) rfl ?_
                    refine y (ev_move rfl) rfl ?_
                    first
                      | refine y (ev_ixAddr rfl rfl Try.underlying27 Try.sizeOf5 (by omega) (by omega)) rfl ?_
                      | refine y (ev_ixV (by assumption) rfl rfl Try.underlying27 Try.sizeOf5 (by omega) (by omega)) rfl ?_
                    refine y (ev_load rfl Try.isAgg5 (by repeat first | exact .z | apply In.s) (by rw [show 0 + (z : Int).toNat * 1 = z by simp]; exact pad_zero hz0 (by omega))) rfl ?_
                    refine y (ev_neq rfl rfl) rfl ?_
                    refine ynil' (kthn (hK99 _ _ ?_))
                    clear hK99
                    refine ccond rfl (fun h543 => ?_) (fun h543 => ?_)
                    · (try simp only [decide_eq_true_eq, beq_iff_eq, beq_eq_false_iff_ne, decide_eq_decide, decide_eq_false_iff_not, Bool.not_eq_true', Bool.not_eq_false', Bool.not_eq_true, Bool.not_eq_false, Bool.not_not, ne_eq, Option.isNone_some, Option.isSome_some, Option.isNone_none, Option.isSome_none] at h543)
                      refine cseq ?_; intro K100 hK100
                      refine creg ?_
                      refine y (ev_assign rfl) rfl ?_
                      refine ynil' (kthn (hK100 _ _ ?_))
                      clear hK100
                      refine cret (kbr (kthr (kthr (kbr (kthr ?_)))))
                      first
                        | (exfalso; omega; done)
                        | (refine kretv Try.results6 rfl (L1 := R) (by repeat first | exact .refl | exact .nil | exact .z | apply Pk.s | apply Ge.pick | apply Ge.drop) ?_
                           exact ⟨_, ⟨by first | rfl | (exfalso; omega; done) | (exfalso; simp_all; done) | (simp; omega) | simp_all, rfl⟩, by first | rfl | (exfalso; omega; done) | (exfalso; simp_all; done) | (simp; omega) | simp_all⟩)
                    · (try simp only [decide_eq_true_eq, beq_iff_eq, beq_eq_false_iff_ne, decide_eq_decide, decide_eq_false_iff_not, Bool.not_eq_true', Bool.not_eq_false', Bool.not_eq_true, Bool.not_eq_false, Bool.not_not, ne_eq, Option.isNone_some, Option.isSome_some, Option.isNone_none, Option.isSome_none] at h543)
                      refine cskip' (kbn (kthn (hK98 _ _ ?_)))
                      clear hK98
                      refine creg ?_
                      refine y (ev_move rfl) rfl ?_
                      refine y (ev_add rfl rfl) rfl ?_
                      rw [show IntKind.i64.wrap ((z:Int) + 1) = ((z+1 : Nat) : Int) by rw [wr (by omega) (by omega)]; rfl]
                      refine y (ev_assign rfl) rfl ?_
                      refine ynil' (kthn ?_)
                      exact hL3 (z + 1) (⟨by omega, by omega⟩) (by omega) _ _ (by repeat first | exact sub_nil | refine sub_cons rfl ?_ | refine sub_cons' rfl (by simp) ?_) (by repeat first | exact .refl | exact .nil | exact .z | apply Pk.s | apply Ge.pick | apply Ge.drop)
                  · (try simp only [decide_eq_true_eq, beq_iff_eq, beq_eq_false_iff_ne, decide_eq_decide, decide_eq_false_iff_not, Bool.not_eq_true', Bool.not_eq_false', Bool.not_eq_true, Bool.not_eq_false, Bool.not_not, ne_eq, Option.isNone_some, Option.isSome_some, Option.isNone_none, Option.isSome_none] at h537)
                    refine cexit (kthx (kthx (kbx (kthn (hK94 _ _ ?_)))))
                    clear hK94
                    refine cseq ?_; intro K101 hK101
                    refine creg ?_
                    refine y (ev_assign rfl) rfl ?_
                    refine ynil' (kthn (hK101 _ _ ?_))
                    clear hK101
                    refine cret ?_
                    first
                      | (exfalso; omega; done)
                      | (refine kretv Try.results6 rfl (L1 := R) (by repeat first | exact .refl | exact .nil | exact .z | apply Pk.s | apply Ge.pick | apply Ge.drop) ?_
                         exact ⟨_, ⟨by first | rfl | (exfalso; omega; done) | (exfalso; simp_all; done) | (simp; omega) | simp_all, rfl⟩, by first | rfl | (exfalso; omega; done) | (exfalso; simp_all; done) | (simp; omega) | simp_all⟩)
    · skip
      first | (refine ycall (secNewI hn) rfl Try.call15 (by repeat first | exact .nil | exact .z | apply Pk.s | apply Tk.cons) rfl ?_; rintro v L' ⟨q, rfl, rfl⟩) | (refine ycall (secNewNil (by omega)) rfl Try.call15 (by repeat first | exact .nil | exact .z | apply Pk.s | apply Tk.cons) rfl ?_; rintro v L' ⟨rfl, rfl⟩)
      refine y (ev_assign rfl) rfl ?_
      refine ynil' (kthn (hK5 _ _ ?_))
      clear hK5
      refine cseq ?_; intro K102 hK102
      refine cseq ?_; intro K103 hK103
      refine creg ?_
      refine y (ev_move rfl) rfl ?_
      refine y (ev_eqlPnil rfl rfl Try.underlying24) rfl ?_
      refine ynil' (kthn (hK103 _ _ ?_))
      clear hK103
      refine ccond1 rfl ?_
      refine cseq ?_; intro K104 hK104
      refine creg ?_
      refine y (ev_assign rfl) rfl ?_
      refine ynil' (kthn (hK104 _ _ ?_))
      clear hK104
      refine cret (kthr ?_)
      first
        | (exfalso; omega; done)
        | (refine kretv Try.results6 rfl (L1 := R) (by repeat first | exact .refl | exact .nil | exact .z | apply Pk.s | apply Ge.pick | apply Ge.drop) ?_
           exact ⟨_, ⟨by first | rfl | (exfalso; omega; done) | (exfalso; simp_all; done) | (simp; omega) | simp_all, rfl⟩, by first | rfl | (exfalso; omega; done) | (exfalso; simp_all; done) | (simp; omega) | simp_all⟩)
end W
end Go.Proofs
