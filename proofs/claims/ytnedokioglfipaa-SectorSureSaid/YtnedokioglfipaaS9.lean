/- A part of the proof: contracts and plain lemmas, each without conditions beyond those that it names. -/
import Derived.Test.YtnedokioglfipaaS8
import Derived.Test.YtnedokioglfipaaSecE
set_option linter.unusedVariables false
set_option linter.unusedSimpArgs false
set_option linter.constructorNameAsVariable false
namespace Go.Proofs
open Go Go.Sl
namespace W
set_option linter.unusedVariables false
theorem lawPending [Env] {R : List Seg} {n : Int} {lv : Value} {acts : List ActM} (hl : RdV R lv acts.length (actsV acts)) (haa : ∀ a ∈ acts, a.ok R) :
    Con Try.prog 8 [i64 n, lv] [] R (Is (.bool true) []) := by
  refine con_enter Try.func8 Try.ntmps8 rfl rfl ?_
  refine cseq ?_; intro K1 hK1
  refine creg ?_
  refine y (ev_assign rfl) rfl ?_
  refine ynil' (kthn (hK1 _ _ ?_))
  clear hK1
  refine cseq ?_; intro K2 hK2
  refine cseq ?_; intro K3 hK3
  refine creg ?_
  refine ycall (awake) rfl Try.call14 (by repeat first | exact .nil | exact .z | apply Pk.s | apply Tk.cons) rfl ?_
  rintro v L' ⟨rfl, rfl⟩
  refine y (ev_not rfl) rfl ?_
  refine ynil' (kthn (hK3 _ _ ?_))
  clear hK3
  refine ccond rfl (fun h4 => ?_) (fun h4 => ?_)
  · (try simp only [decide_eq_true_eq, beq_iff_eq, beq_eq_false_iff_ne, decide_eq_decide, decide_eq_false_iff_not, Bool.not_eq_true', Bool.not_eq_false', Bool.not_eq_true, Bool.not_eq_false, Bool.not_not, ne_eq, Option.isNone_some, Option.isSome_some, Option.isNone_none, Option.isSome_none] at h4)
    refine cseq ?_; intro K4 hK4
    refine creg ?_
    refine y (ev_assign rfl) rfl ?_
    refine ynil' (kthn (hK4 _ _ ?_))
    clear hK4
    refine cret (kthr ?_)
    first
      | (exfalso; omega; done)
      | (refine kretv Try.results8 rfl (L1 := R) (by repeat first | exact .refl | exact .nil | exact .z | apply Pk.s | with_reducible refine Ge.e ?_ | apply Ge.pick | apply Ge.drop) ?_
         exact ⟨_, ⟨by first | rfl | (exfalso; omega; done) | (exfalso; simp_all; done) | (simp; omega) | simp_all, rfl⟩, by first | rfl | (exfalso; omega; done) | (exfalso; simp_all; done) | (simp; omega) | simp_all⟩)
  · (try simp only [decide_eq_true_eq, beq_iff_eq, beq_eq_false_iff_ne, decide_eq_decide, decide_eq_false_iff_not, Bool.not_eq_true', Bool.not_eq_false', Bool.not_eq_true, Bool.not_eq_false, Bool.not_not, ne_eq, Option.isNone_some, Option.isSome_some, Option.isNone_none, Option.isSome_none] at h4)
    refine cskip' (kthn (hK2 _ _ ?_))
    clear hK2
    refine cseq ?_; intro K5 hK5
    refine creg ?_
    refine y (ev_move rfl) rfl ?_
    by_cases hn : 0 ≤ n ∧ n ≤ 512
    · skip
      first | (refine ycall (secNewI hn) rfl Try.call15 (by repeat first | exact .nil | exact .z | apply Pk.s | apply Tk.cons) rfl ?_; rintro v L' ⟨q, rfl, rfl⟩) | (refine ycall (secNewNil (by omega)) rfl Try.call15 (by repeat first | exact .nil | exact .z | apply Pk.s | apply Tk.cons) rfl ?_; rintro v L' ⟨rfl, rfl⟩)
      refine y (ev_assign rfl) rfl ?_
      refine ynil' (kthn (hK5 _ _ ?_))
      clear hK5
      refine cseq ?_; intro K6 hK6
      refine cseq ?_; intro K7 hK7
      refine creg ?_
      refine y (ev_move rfl) rfl ?_
      refine y (ev_eqlPnil rfl rfl Try.underlying24) rfl ?_
      refine ynil' (kthn (hK7 _ _ ?_))
      clear hK7
      refine ccond0 rfl ?_
      refine cskip' (kthn (hK6 _ _ ?_))
      clear hK6
      refine cseq ?_; intro K8 hK8
      refine creg ?_
      refine ya (ac_makeMap) rfl ?_
      rintro v L' ⟨b17, rfl, rfl⟩
      refine y (ev_assign rfl) rfl ?_
      refine ynil' (kthn (hK8 _ _ ?_))
      clear hK8
      refine cseq ?_; intro K9 hK9
      refine cseq ?_; intro K10 hK10
      refine creg ?_
      refine y (ev_assign rfl) rfl ?_
      refine ynil' (kthn (hK10 _ _ ?_))
      clear hK10
      have hJ1 : ∀ x : Nat × Dev × Nat × Kv × Nat, ((Up x.2.1 n.toNat ∧ WantOk x.2.1 x.2.2.2.1 ∧ x.1 ≤ acts.length ∧ x.1 ≤ 80) ∧ (True)) → Sk 101 K9 ([(7, i64 x.1), (6, .map (some x.2.2.1)), (5, dp q), (1, lv)]) ([dev q x.2.1, so x.2.2.1 (.map (ents x.2.2.2.1) x.2.2.2.2)] ++ R) := by
        rintro ⟨k, D, b, kv, c⟩ ⟨hI1, hX1⟩
        refine hK9 _ _ ?_
        obtain ⟨hU, hw, hk1, hk2⟩ := hI1; dsimp only at hU hw hk1 hk2 ⊢
        refine cseq ?_; intro K11 hK11
        refine creg ?_
        refine y (ev_assign rfl) rfl ?_
        refine ynil' (kthn (hK11 _ _ ?_))
        clear hK11
        refine cret ?_
        first
          | (exfalso; omega; done)
          | (refine kretv Try.results8 rfl (L1 := R) (by repeat first | exact .refl | exact .nil | exact .z | apply Pk.s | with_reducible refine Ge.e ?_ | apply Ge.pick | apply Ge.drop) ?_
             exact ⟨_, ⟨by first | rfl | (exfalso; omega; done) | (exfalso; simp_all; done) | (simp; omega) | simp_all, rfl⟩, by first | rfl | (exfalso; omega; done) | (exfalso; simp_all; done) | (simp; omega) | simp_all⟩)
      clear hK9
      refine cblock ?_
      refine cloop (A := Nat × Dev × Nat × Kv × Nat) (fun x => [(7, i64 x.1), (6, .map (some x.2.2.1)), (5, dp q), (1, lv)]) (fun x => [dev q x.2.1, so x.2.2.1 (.map (ents x.2.2.2.1) x.2.2.2.2)] ++ R) (fun x => Up x.2.1 n.toNat ∧ WantOk x.2.1 x.2.2.2.1 ∧ x.1 ≤ acts.length ∧ x.1 ≤ 80) (fun x => acts.length - x.1) ((0, Dev.new n.toNat, b17, [], 0)) ?_ (by repeat first | exact sub_nil | refine sub_cons rfl ?_ | refine sub_cons' rfl (by simp) ?_) (by repeat first | exact .refl | exact .nil | exact .z | apply Pk.s | with_reducible refine Ge.e ?_ | apply Ge.pick | apply Ge.drop) ?_
      · exact ⟨⟨Dev.new_ok (by omega), by simp [Dev.new], rfl, rfl⟩, .nil rfl, Nat.zero_le _, Nat.zero_le _⟩
      rintro ⟨k, D, b, kv, c⟩ hI1 KL1 hL1
      have hI1o := hI1
      obtain ⟨hU, hw, hk1, hk2⟩ := hI1; dsimp only at hU hw hk1 hk2 ⊢
      refine cseq ?_; intro K12 hK12
      refine cseq ?_; intro K13 hK13
      refine creg ?_
      refine y (ev_move rfl) rfl ?_
      refine y (ev_move rfl) rfl ?_
      first
        | refine y (ev_len rfl Try.underlying22) rfl ?_
        | refine y (ev_lenSv rfl Try.underlying22 (by assumption)) rfl ?_
        | refine y (ev_lenV rfl Try.underlying22 (RdV.lenVal (by assumption))) rfl ?_
        | refine y (ev_lenV rfl Try.underlying22 (RdB.lenVal (by assumption))) rfl ?_
      refine y (ev_lss rfl rfl) rfl ?_
      refine y (ev_move rfl) rfl ?_
      refine ysplit 22 rfl (fun h20 => ?_) (fun h20 => ?_)
      · (try simp only [decide_eq_true_eq, beq_iff_eq, beq_eq_false_iff_ne, decide_eq_decide, decide_eq_false_iff_not, Bool.not_eq_true', Bool.not_eq_false', Bool.not_eq_true, Bool.not_eq_false, Bool.not_not, ne_eq, Option.isNone_some, Option.isSome_some, Option.isNone_none, Option.isSome_none] at h20)
        refine yg1 rfl rfl ?_
        refine y (ev_move rfl) rfl ?_
        refine yg1 rfl rfl ?_
        refine y (ev_lss rfl rfl) rfl ?_
        refine y (ev_pick1 rfl rfl) rfl ?_
        refine ynil' (kthn (hK13 _ _ ?_))
        clear hK13
        refine ccond rfl (fun h24 => ?_) (fun h24 => ?_)
        · (try simp only [decide_eq_true_eq, beq_iff_eq, beq_eq_false_iff_ne, decide_eq_decide, decide_eq_false_iff_not, Bool.not_eq_true', Bool.not_eq_false', Bool.not_eq_true, Bool.not_eq_false, Bool.not_not, ne_eq, Option.isNone_some, Option.isSome_some, Option.isNone_none, Option.isSome_none] at h24)
          obtain ⟨a, hka⟩ : ∃ a, acts[k]? = some a := ⟨_, List.getElem?_eq_getElem (by omega)⟩
          have hact := haa a (List.mem_of_getElem? hka)
          have hb := hact.bytes
          refine cskip' (kthn (hK12 _ _ ?_))
          clear hK12
          refine cseq ?_; intro K14 hK14
          refine cblock ?_
          refine cseq ?_; intro K15 hK15
          refine creg ?_
          refine y (ev_move rfl) rfl ?_
          refine y (ev_move rfl) rfl ?_
          first
            | refine y (ev_ixAddr rfl rfl Try.underlying22 Try.sizeOf30 (by omega) (by omega)) rfl ?_
            | refine y (ev_ixV (by assumption) rfl rfl Try.underlying22 Try.sizeOf30 (by omega) (by omega)) rfl ?_
          refine y (ev_loadNV (us := a.cells) (k * 4) hl (by repeat first | exact .refl | exact .nil | exact .z | apply Pk.s | with_reducible refine Ge.e ?_ | apply Ge.pick | apply Ge.drop) rfl Try.isAgg30 Try.sizeOf30 (by simp) (actsV_get _ _ _ hka) rfl) rfl ?_
          refine ya (ac_alloc Try.zeroValue30 rfl) rfl ?_
          rintro v L' ⟨b8, rfl, rfl⟩
          refine ya0 (ac_storeN rfl rfl (cells_one hact) Try.sizeOf30 (by repeat first | exact .z | apply Rp.s) rfl (by decide) rfl) ?_
          rintro v L' ⟨rfl, rfl⟩
          refine ynil' (kthn (hK15 _ _ ?_))
          clear hK15
          refine cseq ?_; intro K16 hK16
          refine cseq ?_; intro K17 hK17
          refine creg ?_
          refine y (ev_loadN (u := a.cells) rfl Try.isAgg30 Try.sizeOf30 (by repeat first | exact .z | apply In.s) rfl rfl) rfl ?_
          refine ycall (large ?act32) rfl Try.call21 (by repeat first | exact .nil | exact .z | apply Pk.s | apply Tk.cons) rfl ?_
          case act32 => exact hact.mono (by repeat first | exact .refl | exact .nil | exact .z | apply Pk.s | with_reducible refine Ge.e ?_ | apply Ge.pick | apply Ge.drop)
          rintro v L' ⟨rfl, rfl⟩
          refine ynil' (kthn (hK17 _ _ ?_))
          clear hK17
          refine ccond rfl (fun h33 => ?_) (fun h33 => ?_)
          · (try simp only [decide_eq_true_eq, beq_iff_eq, beq_eq_false_iff_ne, decide_eq_decide, decide_eq_false_iff_not, Bool.not_eq_true', Bool.not_eq_false', Bool.not_eq_true, Bool.not_eq_false, Bool.not_not, ne_eq, Option.isNone_some, Option.isSome_some, Option.isNone_none, Option.isSome_none] at h33)
            refine cseq ?_; intro K18 hK18
            refine creg ?_
            refine y (ev_assign rfl) rfl ?_
            refine ynil' (kthn (hK18 _ _ ?_))
            clear hK18
            refine cret (kthr (kbr (kthr (kthr (kbr (kthr ?_))))))
            first
              | (exfalso; omega; done)
              | (refine kretv Try.results8 rfl (L1 := R) (by repeat first | exact .refl | exact .nil | exact .z | apply Pk.s | with_reducible refine Ge.e ?_ | apply Ge.pick | apply Ge.drop) ?_
                 exact ⟨_, ⟨by first | rfl | (exfalso; omega; done) | (exfalso; simp_all; done) | (simp; omega) | simp_all, rfl⟩, by first | rfl | (exfalso; omega; done) | (exfalso; simp_all; done) | (simp; omega) | simp_all⟩)
          · (try simp only [decide_eq_true_eq, beq_iff_eq, beq_eq_false_iff_ne, decide_eq_decide, decide_eq_false_iff_not, Bool.not_eq_true', Bool.not_eq_false', Bool.not_eq_true, Bool.not_eq_false, Bool.not_not, ne_eq, Option.isNone_some, Option.isSome_some, Option.isNone_none, Option.isSome_none] at h33)
            refine cskip' (kthn (hK16 _ _ ?_))
            clear hK16
            refine cseq ?_; intro K19 hK19
            have hJr26 : ∀ x : Dev × Nat × Kv × Nat, (Up x.1 n.toNat ∧ WantOk x.1 x.2.2.1) → Sk 101 K19 ([(7, i64 k), (6, .map (some x.2.1)), (5, dp q), (1, lv)]) ([dev q x.1, so x.2.1 (.map (ents x.2.2.1) x.2.2.2)] ++ R) := by
              rintro ⟨D, b, kv, c⟩ hIr26
              refine hK19 _ _ ?_
              clear hU hw; obtain ⟨hU, hw⟩ := hIr26; dsimp only at hU hw ⊢
              refine cseq ?_; intro K20 hK20
              refine creg ?_
              refine y (ev_move rfl) rfl ?_
              refine ycall (secPending ?ok36) rfl Try.call33 (by repeat first | exact .nil | exact .z | apply Pk.s | apply Tk.cons) rfl ?_
              case ok36 => exact hU.ok
              rintro v L' ⟨s66, rfl, ok66, rfl⟩
              refine y (ev_assign rfl) rfl ?_
              refine ynil' (kthn (hK20 _ _ ?_))
              clear hK20
              refine cseq ?_; intro K21 hK21
              refine cseq ?_; intro K22 hK22
              refine creg ?_
              refine y (ev_move rfl) rfl ?_
              first
                | refine y (ev_len rfl Try.underlying42) rfl ?_
                | refine y (ev_lenSv rfl Try.underlying42 (by assumption)) rfl ?_
                | refine y (ev_lenV rfl Try.underlying42 (RdV.lenVal (by assumption))) rfl ?_
                | refine y (ev_lenV rfl Try.underlying42 (RdB.lenVal (by assumption))) rfl ?_
              refine y (ev_move rfl) rfl ?_
              refine y (ev_lenM rfl Try.underlying54 (by repeat first | exact .z | apply In.s)) rfl ?_
              rw [show (ents kv).size = D.es.length by simp [ents, hw.len]]
              refine y (ev_neq rfl rfl) rfl ?_
              refine ynil' (kthn (hK22 _ _ ?_))
              clear hK22
              refine ccond rfl (fun h43 => ?_) (fun h43 => ?_)
              · (try simp only [decide_eq_true_eq, beq_iff_eq, beq_eq_false_iff_ne, decide_eq_decide, decide_eq_false_iff_not, Bool.not_eq_true', Bool.not_eq_false', Bool.not_eq_true, Bool.not_eq_false, Bool.not_not, ne_eq, Option.isNone_some, Option.isSome_some, Option.isNone_none, Option.isSome_none] at h43)
                refine cseq ?_; intro K23 hK23
                refine creg ?_
                refine y (ev_assign rfl) rfl ?_
                refine ynil' (kthn (hK23 _ _ ?_))
                clear hK23
                refine cret (kthr (kbr (kthr (kthr (kbr (kthr ?_))))))
                first
                  | (exfalso; omega; done)
                  | (refine kretv Try.results8 rfl (L1 := R) (by repeat first | exact .refl | exact .nil | exact .z | apply Pk.s | with_reducible refine Ge.e ?_ | apply Ge.pick | apply Ge.drop) ?_
                     exact ⟨_, ⟨by first | rfl | (exfalso; omega; done) | (exfalso; simp_all; done) | (simp; omega) | simp_all, rfl⟩, by first | rfl | (exfalso; omega; done) | (exfalso; simp_all; done) | (simp; omega) | simp_all⟩)
              · (try simp only [decide_eq_true_eq, beq_iff_eq, beq_eq_false_iff_ne, decide_eq_decide, decide_eq_false_iff_not, Bool.not_eq_true', Bool.not_eq_false', Bool.not_eq_true, Bool.not_eq_false, Bool.not_not, ne_eq, Option.isNone_some, Option.isSome_some, Option.isNone_none, Option.isSome_none] at h43)
                refine cskip' (kthn (hK21 _ _ ?_))
                clear hK21
                refine cseq ?_; intro K24 hK24
                refine creg ?_
                refine y (ev_move rfl) rfl ?_
                first
                  | refine y (ev_len rfl Try.underlying42) rfl ?_
                  | refine y (ev_lenSv rfl Try.underlying42 (by assumption)) rfl ?_
                  | refine y (ev_lenV rfl Try.underlying42 (RdV.lenVal (by assumption))) rfl ?_
                  | refine y (ev_lenV rfl Try.underlying42 (RdB.lenVal (by assumption))) rfl ?_
                refine y (ev_move rfl) rfl ?_
                refine ynil' (kthn (hK24 _ _ ?_))
                clear hK24
                refine cblock ?_
                refine cloop (A := Nat) (fun x => [(74, i64 x), (73, i64 D.es.length), (9, svVal s66 D.es.length), (7, i64 k), (6, .map (some b)), (5, dp q), (1, lv)]) (fun x => [svSeg s66 3 (intsV D.pending), dev q D, so b (.map (ents kv) c)] ++ R) (fun x => x ≤ D.es.length) (fun x => D.es.length - x) (0) ?_ (by repeat first | exact sub_nil | refine sub_cons rfl ?_ | refine sub_cons' rfl (by simp) ?_) (by repeat first | exact .refl | exact .nil | exact .z | apply Pk.s | with_reducible refine Ge.e ?_ | apply Ge.pick | apply Ge.drop) ?_
                · exact Nat.zero_le _
                rintro z hI2 KL2 hL2
                have hI2o := hI2
                have hz2 := hI2; have hle := es_le hU.ok
                have hp66 : RdV [svSeg s66 3 (intsV D.pending)] (svVal s66 D.es.length) D.es.length (intsV D.pending) := rdV_sv .z ok66
                refine cseq ?_; intro K25 hK25
                refine creg ?_
                refine y (ev_lss rfl rfl) rfl ?_
                refine ynil' (kthn (hK25 _ _ ?_))
                clear hK25
                refine cseq ?_; intro K26 hK26
                refine ccond rfl (fun h49 => ?_) (fun h49 => ?_)
                · (try simp only [decide_eq_true_eq, beq_iff_eq, beq_eq_false_iff_ne, decide_eq_decide, decide_eq_false_iff_not, Bool.not_eq_true', Bool.not_eq_false', Bool.not_eq_true, Bool.not_eq_false, Bool.not_not, ne_eq, Option.isNone_some, Option.isSome_some, Option.isNone_none, Option.isSome_none] at h49)
                  obtain ⟨i, hi, him⟩ := pend_at (D := D) (k := z) (by omega)
                  refine cskip' (kthn (hK26 _ _ ?_))
                  clear hK26
                  refine cseq ?_; intro K27 hK27
                  refine cblock ?_
                  refine cseq ?_; intro K28 hK28
                  refine creg ?_
                  refine y (ev_move rfl) rfl ?_
                  refine y (ev_assign rfl) rfl ?_
                  refine ynil' (kthn (hK28 _ _ ?_))
                  clear hK28
                  refine cseq ?_; intro K29 hK29
                  refine cdraw 22 [(0, true), (1, true), (2, true), (3, true), (4, true), (5, true), (6, true), (7, true), (8, true), (9, true), (10, true), (11, true), (12, true), (13, true), (14, true), (15, true), (16, true), (17, true), (18, true), (19, true), (20, true), (21, true)] (_) Try.mixed (by kernel_rfl) .refl ?_
                  refine hr rfl (ev_move rfl) rfl ?_
                  refine hr rfl (ev_move rfl) rfl ?_
                  refine hr rfl (ev_move rfl) rfl ?_
                  first
                    | refine hr rfl (ev_ixAddr rfl rfl Try.underlying42 Try.sizeOf3 (by omega) (by omega)) rfl ?_
                    | refine hr rfl (ev_ixV (by assumption) rfl rfl Try.underlying42 Try.sizeOf3 (by omega) (by omega)) rfl ?_
                  refine hr rfl (ev_loadV z hp66 (by repeat first | exact .refl | exact .nil | exact .z | apply Pk.s | with_reducible refine Ge.e ?_ | apply Ge.pick | apply Ge.drop) rfl Try.isAgg3 (by simp) (intsV_get hi)) rfl ?_
                  refine hr rfl (ev_lookups (hw.get him) rfl rfl Try.underlying54 Try.underlying3 Try.zeroValue4 (by repeat first | exact .z | apply In.s)) rfl ?_
                  refine hr rfl (ev_not rfl) rfl ?_
                  refine hr rfl (ev_move rfl) rfl ?_
                  refine hsplit 84 rfl (fun h60 => ?_) (fun h60 => ?_)
                  · (try simp only [decide_eq_true_eq, beq_iff_eq, beq_eq_false_iff_ne, decide_eq_decide, decide_eq_false_iff_not, Bool.not_eq_true', Bool.not_eq_false', Bool.not_eq_true, Bool.not_eq_false, Bool.not_not, ne_eq, Option.isNone_some, Option.isSome_some, Option.isNone_none, Option.isSome_none] at h60)
                    refine hr0 rfl rfl rfl rfl rfl ?_
                    refine hr0 rfl rfl rfl rfl rfl ?_
                    refine hr0 rfl rfl rfl rfl rfl ?_
                    refine hr0u rfl rfl rfl rfl ?_
                    refine hr0u rfl rfl rfl rfl ?_
                    refine hr0u rfl rfl rfl rfl ?_
                    refine hr0u rfl rfl rfl rfl ?_
                    refine hr0u rfl rfl rfl rfl ?_
                    refine hr0u rfl rfl rfl rfl ?_
                    refine hr0u rfl rfl rfl rfl ?_
                    refine hr0u rfl rfl rfl rfl ?_
                    refine hr0u rfl rfl rfl rfl ?_
                    refine hr0u rfl rfl rfl rfl ?_
                    refine hr0 rfl rfl rfl rfl rfl ?_
                    refine hnil ?_
                    refine y (ev_pick1 rfl rfl) rfl ?_
                    refine hnoP' (kthn (hK29 _ _ ?_))
                    clear hK29
                    refine ccond1 rfl ?_
                    refine cseq ?_; intro K30 hK30
                    refine creg ?_
                    refine y (ev_assign rfl) rfl ?_
                    refine ynil' (kthn (hK30 _ _ ?_))
                    clear hK30
                    refine cret (kbr (kthr (kthr (kbr (kbr (kthr (kthr (kbr (kthr ?_)))))))))
                    first
                      | (exfalso; omega; done)
                      | (refine kretv Try.results8 rfl (L1 := R) (by repeat first | exact .refl | exact .nil | exact .z | apply Pk.s | with_reducible refine Ge.e ?_ | apply Ge.pick | apply Ge.drop) ?_
                         exact ⟨_, ⟨by first | rfl | (exfalso; omega; done) | (exfalso; simp_all; done) | (simp; omega) | simp_all, rfl⟩, by first | rfl | (exfalso; omega; done) | (exfalso; simp_all; done) | (simp; omega) | simp_all⟩)
                  · (try simp only [decide_eq_true_eq, beq_iff_eq, beq_eq_false_iff_ne, decide_eq_decide, decide_eq_false_iff_not, Bool.not_eq_true', Bool.not_eq_false', Bool.not_eq_true, Bool.not_eq_false, Bool.not_not, ne_eq, Option.isNone_some, Option.isSome_some, Option.isNone_none, Option.isSome_none] at h60)
                    refine hr1 rfl rfl rfl (ev_move rfl) rfl ?_
                    refine hr1 rfl rfl rfl (ev_gtr rfl rfl) rfl ?_
                    refine hr1 rfl rfl rfl (ev_move rfl) rfl ?_
                    refine hsplit 87 rfl (fun h66 => ?_) (fun h66 => ?_)
                    · (try simp only [decide_eq_true_eq, beq_iff_eq, beq_eq_false_iff_ne, decide_eq_decide, decide_eq_false_iff_not, Bool.not_eq_true', Bool.not_eq_false', Bool.not_eq_true, Bool.not_eq_false, Bool.not_not, ne_eq, Option.isNone_some, Option.isSome_some, Option.isNone_none, Option.isSome_none] at h66)
                      refine hr1 rfl rfl rfl (ev_move rfl) rfl ?_
                      obtain ⟨z', hz'⟩ : ∃ z', z = z' + 1 := ⟨z - 1, by omega⟩
                      obtain ⟨j, hj, -⟩ := pend_at (D := D) (k := z') (by omega)
                      have hi' := hi
                      rw [hz'] at hi'
                      have hlt := pend_lt hU.ok hj hi'
                      refine hr1 rfl rfl rfl (ev_move rfl) rfl ?_
                      first
                        | refine hr1 rfl rfl rfl (ev_ixAddr rfl rfl Try.underlying42 Try.sizeOf3 (by omega) (by omega)) rfl ?_
                        | refine hr1 rfl rfl rfl (ev_ixV (by assumption) rfl rfl Try.underlying42 Try.sizeOf3 (by omega) (by omega)) rfl ?_
                      refine hr1 rfl rfl rfl (ev_loadV z hp66 (by repeat first | exact .refl | exact .nil | exact .z | apply Pk.s | with_reducible refine Ge.e ?_ | apply Ge.pick | apply Ge.drop) rfl Try.isAgg3 (by simp) (intsV_get hi)) rfl ?_
                      refine hr1 rfl rfl rfl (ev_move rfl) rfl ?_
                      refine hr1 rfl rfl rfl (ev_move rfl) rfl ?_
                      refine hr1 rfl rfl rfl (ev_sub rfl rfl) rfl ?_
                      rw [show IntKind.i64.wrap ((z : Int) - 1) = ((z' : Nat) : Int) by rw [wr (by omega) (by omega)]; omega]
                      first
                        | refine hr1 rfl rfl rfl (ev_ixAddr rfl rfl Try.underlying42 Try.sizeOf3 (by omega) (by omega)) rfl ?_
                        | refine hr1 rfl rfl rfl (ev_ixV (by assumption) rfl rfl Try.underlying42 Try.sizeOf3 (by omega) (by omega)) rfl ?_
                      refine hr1 rfl rfl rfl (ev_loadV z' hp66 (by repeat first | exact .refl | exact .nil | exact .z | apply Pk.s | with_reducible refine Ge.e ?_ | apply Ge.pick | apply Ge.drop) rfl Try.isAgg3 (by simp) (intsV_get hj)) rfl ?_
                      refine hr1 rfl rfl rfl (ev_leq rfl rfl) rfl ?_
                      refine hr1 rfl rfl rfl (ev_pick1 rfl rfl) rfl ?_
                      refine hnil ?_
                      refine y (ev_pick0 rfl rfl) rfl ?_
                      refine hnoP' (kthn (hK29 _ _ ?_))
                      clear hK29
                      refine ccond rfl (fun h79 => ?_) (fun h79 => ?_)
                      · (try simp only [decide_eq_true_eq, beq_iff_eq, beq_eq_false_iff_ne, decide_eq_decide, decide_eq_false_iff_not, Bool.not_eq_true', Bool.not_eq_false', Bool.not_eq_true, Bool.not_eq_false, Bool.not_not, ne_eq, Option.isNone_some, Option.isSome_some, Option.isNone_none, Option.isSome_none] at h79)
                        refine cseq ?_; intro K31 hK31
                        refine creg ?_
                        refine y (ev_assign rfl) rfl ?_
                        refine ynil' (kthn (hK31 _ _ ?_))
                        clear hK31
                        refine cret (kbr (kthr (kthr (kbr (kbr (kthr (kthr (kbr (kthr ?_)))))))))
                        first
                          | (exfalso; omega; done)
                          | (refine kretv Try.results8 rfl (L1 := R) (by repeat first | exact .refl | exact .nil | exact .z | apply Pk.s | with_reducible refine Ge.e ?_ | apply Ge.pick | apply Ge.drop) ?_
                             exact ⟨_, ⟨by first | rfl | (exfalso; omega; done) | (exfalso; simp_all; done) | (simp; omega) | simp_all, rfl⟩, by first | rfl | (exfalso; omega; done) | (exfalso; simp_all; done) | (simp; omega) | simp_all⟩)
                      · (try simp only [decide_eq_true_eq, beq_iff_eq, beq_eq_false_iff_ne, decide_eq_decide, decide_eq_false_iff_not, Bool.not_eq_true', Bool.not_eq_false', Bool.not_eq_true, Bool.not_eq_false, Bool.not_not, ne_eq, Option.isNone_some, Option.isSome_some, Option.isNone_none, Option.isSome_none] at h79)
                        refine cskip' (kbn (kthn (hK27 _ _ ?_)))
                        clear hK27
                        refine creg ?_
                        refine y (ev_add rfl rfl) rfl ?_
                        rw [show IntKind.i64.wrap ((z:Int) + 1) = ((z+1 : Nat) : Int) by rw [wr (by omega) (by omega)]; rfl]
                        refine y (ev_move rfl) rfl ?_
                        refine ynil' (kthn ?_)
                        first
                          | (exfalso; omega; done)
                          | exact hL2 (z + 1) (show z + 1 ≤ D.es.length by omega) (by omega) _ _ (by repeat first | exact sub_nil | refine sub_cons rfl ?_ | refine sub_cons' rfl (by simp) ?_) (by repeat first | exact .refl | exact .nil | exact .z | apply Pk.s | with_reducible refine Ge.e ?_ | apply Ge.pick | apply Ge.drop)
                    · (try simp only [decide_eq_true_eq, beq_iff_eq, beq_eq_false_iff_ne, decide_eq_decide, decide_eq_false_iff_not, Bool.not_eq_true', Bool.not_eq_false', Bool.not_eq_true, Bool.not_eq_false, Bool.not_not, ne_eq, Option.isNone_some, Option.isSome_some, Option.isNone_none, Option.isSome_none] at h66)
                      refine hr0 rfl rfl rfl rfl rfl ?_
                      refine hr0 rfl rfl rfl rfl rfl ?_
                      refine hr0 rfl rfl rfl rfl rfl ?_
                      refine hr0 rfl rfl rfl rfl rfl ?_
                      refine hr0 rfl rfl rfl rfl rfl ?_
                      refine hr0 rfl rfl rfl rfl rfl ?_
                      refine hr0 rfl rfl rfl rfl rfl ?_
                      refine hr0 rfl rfl rfl rfl rfl ?_
                      refine hr0 rfl rfl rfl rfl rfl ?_
                      refine hr0 rfl rfl rfl rfl rfl ?_
                      refine hr1 rfl rfl rfl (ev_pick0 rfl rfl) rfl ?_
                      refine hnil ?_
                      refine y (ev_pick0 rfl rfl) rfl ?_
                      refine hnoP' (kthn (hK29 _ _ ?_))
                      clear hK29
                      refine ccond0 rfl ?_
                      refine cskip' (kbn (kthn (hK27 _ _ ?_)))
                      clear hK27
                      refine creg ?_
                      refine y (ev_add rfl rfl) rfl ?_
                      rw [show IntKind.i64.wrap ((z:Int) + 1) = ((z+1 : Nat) : Int) by rw [wr (by omega) (by omega)]; rfl]
                      refine y (ev_move rfl) rfl ?_
                      refine ynil' (kthn ?_)
                      first
                        | (exfalso; omega; done)
                        | exact hL2 (z + 1) (show z + 1 ≤ D.es.length by omega) (by omega) _ _ (by repeat first | exact sub_nil | refine sub_cons rfl ?_ | refine sub_cons' rfl (by simp) ?_) (by repeat first | exact .refl | exact .nil | exact .z | apply Pk.s | with_reducible refine Ge.e ?_ | apply Ge.pick | apply Ge.drop)
                · (try simp only [decide_eq_true_eq, beq_iff_eq, beq_eq_false_iff_ne, decide_eq_decide, decide_eq_false_iff_not, Bool.not_eq_true', Bool.not_eq_false', Bool.not_eq_true, Bool.not_eq_false, Bool.not_not, ne_eq, Option.isNone_some, Option.isSome_some, Option.isNone_none, Option.isSome_none] at h49)
                  refine cexit (kthx (kthx (kbx (kbn (kthn (hK14 _ _ ?_))))))
                  clear hK14
                  refine creg ?_
                  refine y (ev_move rfl) rfl ?_
                  refine y (ev_add rfl rfl) rfl ?_
                  rw [show IntKind.i64.wrap ((k:Int) + 1) = ((k+1 : Nat) : Int) by rw [wr (by omega) (by omega)]; rfl]
                  refine y (ev_assign rfl) rfl ?_
                  refine ynil' (kthn ?_)
                  exact hL1 (k + 1, D, b, kv, c) ⟨hU, hw, by dsimp only; omega, by dsimp only; omega⟩ (by dsimp only; omega) _ _ (by repeat first | exact sub_nil | refine sub_cons rfl ?_ | refine sub_cons' rfl (by simp) ?_) (by repeat first | exact .refl | exact .nil | exact .z | apply Pk.s | with_reducible refine Ge.e ?_ | apply Ge.pick | apply Ge.drop)
            clear hK19
            refine cseq ?_; intro K32 hK32
            refine creg ?_
            refine y (ev_fieldAddr 0 rfl Try.underlying30 rfl Try.sizeOf3) rfl ?_
            refine y (ev_load rfl Try.isAgg3 (by repeat first | exact .z | apply In.s) rfl) rfl ?_
            refine ynil' (kthn (hK32 _ _ ?_))
            clear hK32
            refine cblock ?_
            refine cseq ?_; intro K33 hK33
            refine creg ?_
            refine y (ev_eql rfl rfl) rfl ?_
            refine y (ev_assign rfl) rfl ?_
            refine ynil' (kthn (hK33 _ _ ?_))
            clear hK33
            refine ccond rfl (fun h94 => ?_) (fun h94 => ?_)
            · (try simp only [decide_eq_true_eq, beq_iff_eq, beq_eq_false_iff_ne, decide_eq_decide, decide_eq_false_iff_not, Bool.not_eq_true', Bool.not_eq_false', Bool.not_eq_true, Bool.not_eq_false, Bool.not_not, ne_eq, Option.isNone_some, Option.isSome_some, Option.isNone_none, Option.isSome_none] at h94)
              refine cseq ?_; intro K34 hK34
              refine creg ?_
              refine y (ev_move rfl) rfl ?_
              refine y (ev_fieldAddr 1 rfl Try.underlying30 rfl Try.sizeOf3) rfl ?_
              refine y (ev_load rfl Try.isAgg3 (by repeat first | exact .z | apply In.s) rfl) rfl ?_
              refine y (ev_fieldAddr 2 rfl Try.underlying30 rfl Try.sizeOf27) rfl ?_
              refine y (ev_load rfl Try.isAgg27 (by repeat first | exact .z | apply In.s) rfl) rfl ?_
              refine ycall (secWrite (bs := a.bs) ?ok100 ?rd100) rfl Try.call18 (by repeat first | exact .nil | exact .z | apply Pk.s | apply Tk.cons) rfl ?_
              case ok100 => exact hU.ok
              case rd100 => exact hb.mono (by repeat first | exact .refl | exact .nil | exact .z | apply Pk.s | with_reducible refine Ge.e ?_ | apply Ge.pick | apply Ge.drop)
              rintro v L' ⟨rfl, rfl⟩
              refine y (ev_eql rfl rfl) rfl ?_
              refine ynil' (kthn (hK34 _ _ ?_))
              clear hK34
              refine ccond rfl (fun h102 => ?_) (fun h102 => ?_)
              · (try simp only [decide_eq_true_eq, beq_iff_eq, beq_eq_false_iff_ne, decide_eq_decide, decide_eq_false_iff_not, Bool.not_eq_true', Bool.not_eq_false', Bool.not_eq_true, Bool.not_eq_false, Bool.not_not, ne_eq, Option.isNone_some, Option.isSome_some, Option.isNone_none, Option.isSome_none] at h102)
                refine creg ?_
                refine y (ev_move rfl) rfl ?_
                refine y (ev_fieldAddr 1 rfl Try.underlying30 rfl Try.sizeOf3) rfl ?_
                refine y (ev_load rfl Try.isAgg3 (by repeat first | exact .z | apply In.s) rfl) rfl ?_
                refine ya0 (ac_mapUpdate rfl rfl rfl Try.underlying54 Try.underlying3 ?uniq106 (by repeat first | exact .z | apply Rp.s)) ?_
                case uniq106 => exact hw.uniq hU.ok
                rintro v L' ⟨rfl, rfl⟩
                refine ynil' (kbn (kthn ?_))
                first
                  | (exfalso; omega; done)
                  | exact ksub (by repeat first | exact sub_nil | refine sub_cons rfl ?_ | refine sub_cons' rfl (by simp) ?_) (by repeat first | exact .refl | exact .nil | exact .z | apply Pk.s | with_reducible refine Ge.e ?_ | apply Ge.pick | apply Ge.drop) (hJr26 (_, _, _, _) (by first | exact ⟨hU.write_up _ _, hw.put hU (by assumption)⟩ | exact ⟨hU.fail (by assumption), hw.fail hU (by assumption)⟩ | exact ⟨hU.barrier_up, .nil (barrier_es hU)⟩ | exact ⟨by have := crash_up hU.ok a.ks; rw [hU.len] at this; exact this, .nil (crash_es _ _)⟩ | exact ⟨by have := lose_up hU.ok; rw [hU.len] at this; exact this, .nil (lose_es _)⟩ | exact ⟨hU, hw⟩))
              · (try simp only [decide_eq_true_eq, beq_iff_eq, beq_eq_false_iff_ne, decide_eq_decide, decide_eq_false_iff_not, Bool.not_eq_true', Bool.not_eq_false', Bool.not_eq_true, Bool.not_eq_false, Bool.not_not, ne_eq, Option.isNone_some, Option.isSome_some, Option.isNone_none, Option.isSome_none] at h102)
                refine cskip' (kbn (kthn ?_))
                first
                  | (exfalso; omega; done)
                  | exact ksub (by repeat first | exact sub_nil | refine sub_cons rfl ?_ | refine sub_cons' rfl (by simp) ?_) (by repeat first | exact .refl | exact .nil | exact .z | apply Pk.s | with_reducible refine Ge.e ?_ | apply Ge.pick | apply Ge.drop) (hJr26 (_, _, _, _) (by first | exact ⟨hU.write_up _ _, hw.put hU (by assumption)⟩ | exact ⟨hU.fail (by assumption), hw.fail hU (by assumption)⟩ | exact ⟨hU.barrier_up, .nil (barrier_es hU)⟩ | exact ⟨by have := crash_up hU.ok a.ks; rw [hU.len] at this; exact this, .nil (crash_es _ _)⟩ | exact ⟨by have := lose_up hU.ok; rw [hU.len] at this; exact this, .nil (lose_es _)⟩ | exact ⟨hU, hw⟩))
            · (try simp only [decide_eq_true_eq, beq_iff_eq, beq_eq_false_iff_ne, decide_eq_decide, decide_eq_false_iff_not, Bool.not_eq_true', Bool.not_eq_false', Bool.not_eq_true, Bool.not_eq_false, Bool.not_not, ne_eq, Option.isNone_some, Option.isSome_some, Option.isNone_none, Option.isSome_none] at h94)
              refine cseq ?_; intro K35 hK35
              refine creg ?_
              refine y (ev_eql rfl rfl) rfl ?_
              refine y (ev_assign rfl) rfl ?_
              refine ynil' (kthn (hK35 _ _ ?_))
              clear hK35
              refine ccond rfl (fun h109 => ?_) (fun h109 => ?_)
              · (try simp only [decide_eq_true_eq, beq_iff_eq, beq_eq_false_iff_ne, decide_eq_decide, decide_eq_false_iff_not, Bool.not_eq_true', Bool.not_eq_false', Bool.not_eq_true, Bool.not_eq_false, Bool.not_not, ne_eq, Option.isNone_some, Option.isSome_some, Option.isNone_none, Option.isSome_none] at h109)
                refine cseq ?_; intro K36 hK36
                refine creg ?_
                refine y (ev_move rfl) rfl ?_
                refine ycall (secBarrier ?ok111) rfl Try.call17 (by repeat first | exact .nil | exact .z | apply Pk.s | apply Tk.cons) rfl ?_
                case ok111 => exact hU.ok
                rintro v L' ⟨rfl, rfl⟩
                refine ynil' (kthn (hK36 _ _ ?_))
                clear hK36
                refine creg ?_
                refine ya (ac_makeMap) rfl ?_
                rintro v L' ⟨b52, rfl, rfl⟩
                refine y (ev_assign rfl) rfl ?_
                refine ynil' (kbn (kthn ?_))
                first
                  | (exfalso; omega; done)
                  | exact ksub (by repeat first | exact sub_nil | refine sub_cons rfl ?_ | refine sub_cons' rfl (by simp) ?_) (by repeat first | exact .refl | exact .nil | exact .z | apply Pk.s | with_reducible refine Ge.e ?_ | apply Ge.pick | apply Ge.drop) (hJr26 (_, _, _, _) (by first | exact ⟨hU.write_up _ _, hw.put hU (by assumption)⟩ | exact ⟨hU.fail (by assumption), hw.fail hU (by assumption)⟩ | exact ⟨hU.barrier_up, .nil (barrier_es hU)⟩ | exact ⟨by have := crash_up hU.ok a.ks; rw [hU.len] at this; exact this, .nil (crash_es _ _)⟩ | exact ⟨by have := lose_up hU.ok; rw [hU.len] at this; exact this, .nil (lose_es _)⟩ | exact ⟨hU, hw⟩))
              · (try simp only [decide_eq_true_eq, beq_iff_eq, beq_eq_false_iff_ne, decide_eq_decide, decide_eq_false_iff_not, Bool.not_eq_true', Bool.not_eq_false', Bool.not_eq_true, Bool.not_eq_false, Bool.not_not, ne_eq, Option.isNone_some, Option.isSome_some, Option.isNone_none, Option.isSome_none] at h109)
                refine cseq ?_; intro K37 hK37
                refine creg ?_
                refine y (ev_eql rfl rfl) rfl ?_
                refine y (ev_assign rfl) rfl ?_
                refine ynil' (kthn (hK37 _ _ ?_))
                clear hK37
                refine ccond rfl (fun h116 => ?_) (fun h116 => ?_)
                · (try simp only [decide_eq_true_eq, beq_iff_eq, beq_eq_false_iff_ne, decide_eq_decide, decide_eq_false_iff_not, Bool.not_eq_true', Bool.not_eq_false', Bool.not_eq_true, Bool.not_eq_false, Bool.not_not, ne_eq, Option.isNone_some, Option.isSome_some, Option.isNone_none, Option.isSome_none] at h116)
                  refine cseq ?_; intro K38 hK38
                  refine creg ?_
                  refine y (ev_move rfl) rfl ?_
                  refine y (ev_fieldAddr 3 rfl Try.underlying30 rfl Try.sizeOf28) rfl ?_
                  refine y (ev_load rfl Try.isAgg28 (by repeat first | exact .z | apply In.s) rfl) rfl ?_
                  refine ycall (secCrash (ks := a.ks) ?ok120 ?ks120) rfl Try.call25 (by repeat first | exact .nil | exact .z | apply Pk.s | apply Tk.cons) rfl ?_
                  case ok120 => exact hU.ok
                  case ks120 => exact hact.keeps.mono (by repeat first | exact .refl | exact .nil | exact .z | apply Pk.s | with_reducible refine Ge.e ?_ | apply Ge.pick | apply Ge.drop)
                  rintro v L' ⟨rfl, rfl⟩
                  refine ynil' (kthn (hK38 _ _ ?_))
                  clear hK38
                  refine creg ?_
                  refine ya (ac_makeMap) rfl ?_
                  rintro v L' ⟨b59, rfl, rfl⟩
                  refine y (ev_assign rfl) rfl ?_
                  refine ynil' (kbn (kthn ?_))
                  first
                    | (exfalso; omega; done)
                    | exact ksub (by repeat first | exact sub_nil | refine sub_cons rfl ?_ | refine sub_cons' rfl (by simp) ?_) (by repeat first | exact .refl | exact .nil | exact .z | apply Pk.s | with_reducible refine Ge.e ?_ | apply Ge.pick | apply Ge.drop) (hJr26 (_, _, _, _) (by first | exact ⟨hU.write_up _ _, hw.put hU (by assumption)⟩ | exact ⟨hU.fail (by assumption), hw.fail hU (by assumption)⟩ | exact ⟨hU.barrier_up, .nil (barrier_es hU)⟩ | exact ⟨by have := crash_up hU.ok a.ks; rw [hU.len] at this; exact this, .nil (crash_es _ _)⟩ | exact ⟨by have := lose_up hU.ok; rw [hU.len] at this; exact this, .nil (lose_es _)⟩ | exact ⟨hU, hw⟩))
                · (try simp only [decide_eq_true_eq, beq_iff_eq, beq_eq_false_iff_ne, decide_eq_decide, decide_eq_false_iff_not, Bool.not_eq_true', Bool.not_eq_false', Bool.not_eq_true, Bool.not_eq_false, Bool.not_not, ne_eq, Option.isNone_some, Option.isSome_some, Option.isNone_none, Option.isSome_none] at h116)
                  refine cseq ?_; intro K39 hK39
                  refine creg ?_
                  refine y (ev_eql rfl rfl) rfl ?_
                  refine y (ev_assign rfl) rfl ?_
                  refine ynil' (kthn (hK39 _ _ ?_))
                  clear hK39
                  refine ccond rfl (fun h125 => ?_) (fun h125 => ?_)
                  · (try simp only [decide_eq_true_eq, beq_iff_eq, beq_eq_false_iff_ne, decide_eq_decide, decide_eq_false_iff_not, Bool.not_eq_true', Bool.not_eq_false', Bool.not_eq_true, Bool.not_eq_false, Bool.not_not, ne_eq, Option.isNone_some, Option.isSome_some, Option.isNone_none, Option.isSome_none] at h125)
                    refine cseq ?_; intro K40 hK40
                    refine creg ?_
                    refine y (ev_move rfl) rfl ?_
                    refine ycall (secLose ?ok127) rfl Try.call28 (by repeat first | exact .nil | exact .z | apply Pk.s | apply Tk.cons) rfl ?_
                    case ok127 => exact hU.ok
                    rintro v L' ⟨rfl, rfl⟩
                    refine ynil' (kthn (hK40 _ _ ?_))
                    clear hK40
                    refine creg ?_
                    refine ya (ac_makeMap) rfl ?_
                    rintro v L' ⟨b64, rfl, rfl⟩
                    refine y (ev_assign rfl) rfl ?_
                    refine ynil' (kbn (kthn ?_))
                    first
                      | (exfalso; omega; done)
                      | exact ksub (by repeat first | exact sub_nil | refine sub_cons rfl ?_ | refine sub_cons' rfl (by simp) ?_) (by repeat first | exact .refl | exact .nil | exact .z | apply Pk.s | with_reducible refine Ge.e ?_ | apply Ge.pick | apply Ge.drop) (hJr26 (_, _, _, _) (by first | exact ⟨hU.write_up _ _, hw.put hU (by assumption)⟩ | exact ⟨hU.fail (by assumption), hw.fail hU (by assumption)⟩ | exact ⟨hU.barrier_up, .nil (barrier_es hU)⟩ | exact ⟨by have := crash_up hU.ok a.ks; rw [hU.len] at this; exact this, .nil (crash_es _ _)⟩ | exact ⟨by have := lose_up hU.ok; rw [hU.len] at this; exact this, .nil (lose_es _)⟩ | exact ⟨hU, hw⟩))
                  · (try simp only [decide_eq_true_eq, beq_iff_eq, beq_eq_false_iff_ne, decide_eq_decide, decide_eq_false_iff_not, Bool.not_eq_true', Bool.not_eq_false', Bool.not_eq_true, Bool.not_eq_false, Bool.not_not, ne_eq, Option.isNone_some, Option.isSome_some, Option.isNone_none, Option.isSome_none] at h125)
                    refine cskip' (kbn (kthn ?_))
                    first
                      | (exfalso; omega; done)
                      | exact ksub (by repeat first | exact sub_nil | refine sub_cons rfl ?_ | refine sub_cons' rfl (by simp) ?_) (by repeat first | exact .refl | exact .nil | exact .z | apply Pk.s | with_reducible refine Ge.e ?_ | apply Ge.pick | apply Ge.drop) (hJr26 (_, _, _, _) (by first | exact ⟨hU.write_up _ _, hw.put hU (by assumption)⟩ | exact ⟨hU.fail (by assumption), hw.fail hU (by assumption)⟩ | exact ⟨hU.barrier_up, .nil (barrier_es hU)⟩ | exact ⟨by have := crash_up hU.ok a.ks; rw [hU.len] at this; exact this, .nil (crash_es _ _)⟩ | exact ⟨by have := lose_up hU.ok; rw [hU.len] at this; exact this, .nil (lose_es _)⟩ | exact ⟨hU, hw⟩))
        · (try simp only [decide_eq_true_eq, beq_iff_eq, beq_eq_false_iff_ne, decide_eq_decide, decide_eq_false_iff_not, Bool.not_eq_true', Bool.not_eq_false', Bool.not_eq_true, Bool.not_eq_false, Bool.not_not, ne_eq, Option.isNone_some, Option.isSome_some, Option.isNone_none, Option.isSome_none] at h24)
          refine cexit (kthx (kthx (kbx (kthn ?_))))
          exact ksub (by repeat first | exact sub_nil | refine sub_cons rfl ?_ | refine sub_cons' rfl (by simp) ?_) (by repeat first | exact .refl | exact .nil | exact .z | apply Pk.s | with_reducible refine Ge.e ?_ | apply Ge.pick | apply Ge.drop) (hJ1 ⟨k, D, b, kv, c⟩ ⟨hI1o, by first | trivial | omega⟩)
      · (try simp only [decide_eq_true_eq, beq_iff_eq, beq_eq_false_iff_ne, decide_eq_decide, decide_eq_false_iff_not, Bool.not_eq_true', Bool.not_eq_false', Bool.not_eq_true, Bool.not_eq_false, Bool.not_not, ne_eq, Option.isNone_some, Option.isSome_some, Option.isNone_none, Option.isSome_none] at h20)
        refine yg0 rfl rfl rfl rfl ?_
        refine yg0 rfl rfl rfl rfl ?_
        refine y (ev_pick0 rfl rfl) rfl ?_
        refine ynil' (kthn (hK13 _ _ ?_))
        clear hK13
        refine ccond0 rfl ?_
        refine cexit (kthx (kthx (kbx (kthn ?_))))
        exact ksub (by repeat first | exact sub_nil | refine sub_cons rfl ?_ | refine sub_cons' rfl (by simp) ?_) (by repeat first | exact .refl | exact .nil | exact .z | apply Pk.s | with_reducible refine Ge.e ?_ | apply Ge.pick | apply Ge.drop) (hJ1 ⟨k, D, b, kv, c⟩ ⟨hI1o, by first | trivial | omega⟩)
    · skip
      first | (refine ycall (secNewI hn) rfl Try.call15 (by repeat first | exact .nil | exact .z | apply Pk.s | apply Tk.cons) rfl ?_; rintro v L' ⟨q, rfl, rfl⟩) | (refine ycall (secNewNil (by omega)) rfl Try.call15 (by repeat first | exact .nil | exact .z | apply Pk.s | apply Tk.cons) rfl ?_; rintro v L' ⟨rfl, rfl⟩)
      refine y (ev_assign rfl) rfl ?_
      refine ynil' (kthn (hK5 _ _ ?_))
      clear hK5
      refine cseq ?_; intro K41 hK41
      refine cseq ?_; intro K42 hK42
      refine creg ?_
      refine y (ev_move rfl) rfl ?_
      refine y (ev_eqlPnil rfl rfl Try.underlying24) rfl ?_
      refine ynil' (kthn (hK42 _ _ ?_))
      clear hK42
      refine ccond1 rfl ?_
      refine cseq ?_; intro K43 hK43
      refine creg ?_
      refine y (ev_assign rfl) rfl ?_
      refine ynil' (kthn (hK43 _ _ ?_))
      clear hK43
      refine cret (kthr ?_)
      first
        | (exfalso; omega; done)
        | (refine kretv Try.results8 rfl (L1 := R) (by repeat first | exact .refl | exact .nil | exact .z | apply Pk.s | with_reducible refine Ge.e ?_ | apply Ge.pick | apply Ge.drop) ?_
           exact ⟨_, ⟨by first | rfl | (exfalso; omega; done) | (exfalso; simp_all; done) | (simp; omega) | simp_all, rfl⟩, by first | rfl | (exfalso; omega; done) | (exfalso; simp_all; done) | (simp; omega) | simp_all⟩)
end W
end Go.Proofs
