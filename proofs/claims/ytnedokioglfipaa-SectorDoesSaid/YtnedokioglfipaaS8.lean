/- A part of the proof: contracts and plain lemmas, each without conditions beyond those that it names. -/
import Derived.Test.YtnedokioglfipaaS7
import Derived.Test.YtnedokioglfipaaSecD
set_option linter.unusedVariables false
set_option linter.unusedSimpArgs false
set_option linter.constructorNameAsVariable false
namespace Go.Proofs
open Go Go.Sl
namespace W
set_option linter.unusedVariables false
theorem lawAnew [Env] {R : List Seg} {n : Int} {lv kv : Value} {acts : List ActM} {ks : Keeps} (hl : RdV R lv acts.length (actsV acts)) (haa : ∀ a ∈ acts, a.ok R) (hkk : RdV R kv ks.length (keepsV ks)) :
    Con Try.prog 7 [i64 n, lv, kv] [] R (Is (.bool true) []) := by
  refine con_enter Try.func7 Try.ntmps7 rfl rfl ?_
  refine cseq ?_; intro K1 hK1
  refine creg ?_
  refine y (ev_assign rfl) rfl ?_
  refine ynil' (kthn (hK1 _ _ ?_))
  clear hK1
  refine cseq ?_; intro K2 hK2
  refine cseq ?_; intro K3 hK3
  refine creg ?_
  refine ycall (awake) rfl Try.call14 (by repeat first | exact .nil | exact .z | apply Pk.s | apply Tk.cons) rfl ?_
  rintro v L' ⟨rfl, rfl⟩
  refine y (ev_not rfl) rfl ?_
  refine ynil' (kthn (hK3 _ _ ?_))
  clear hK3
  refine ccond rfl (fun h4 => ?_) (fun h4 => ?_)
  · (try simp only [decide_eq_true_eq, beq_iff_eq, beq_eq_false_iff_ne, decide_eq_decide, decide_eq_false_iff_not, Bool.not_eq_true', Bool.not_eq_false', Bool.not_eq_true, Bool.not_eq_false, Bool.not_not, ne_eq, Option.isNone_some, Option.isSome_some, Option.isNone_none, Option.isSome_none] at h4)
    refine cseq ?_; intro K4 hK4
    refine creg ?_
    refine y (ev_assign rfl) rfl ?_
    refine ynil' (kthn (hK4 _ _ ?_))
    clear hK4
    refine cret (kthr ?_)
    first
      | (exfalso; omega; done)
      | (refine kretv Try.results7 rfl (L1 := R) (by repeat first | exact .refl | exact .nil | exact .z | apply Pk.s | refine Ge.e ?_ | apply Ge.pick | apply Ge.drop) ?_
         exact ⟨_, ⟨by first | rfl | (exfalso; omega; done) | (exfalso; simp_all; done) | (simp; omega) | simp_all, rfl⟩, by first | rfl | (exfalso; omega; done) | (exfalso; simp_all; done) | (simp; omega) | simp_all⟩)
  · (try simp only [decide_eq_true_eq, beq_iff_eq, beq_eq_false_iff_ne, decide_eq_decide, decide_eq_false_iff_not, Bool.not_eq_true', Bool.not_eq_false', Bool.not_eq_true, Bool.not_eq_false, Bool.not_not, ne_eq, Option.isNone_some, Option.isSome_some, Option.isNone_none, Option.isSome_none] at h4)
    refine cskip' (kthn (hK2 _ _ ?_))
    clear hK2
    refine cseq ?_; intro K5 hK5
    refine creg ?_
    refine y (ev_move rfl) rfl ?_
    by_cases hn : 0 ≤ n ∧ n ≤ 512
    · skip
      first | (refine ycall (secNewI hn) rfl Try.call15 (by repeat first | exact .nil | exact .z | apply Pk.s | apply Tk.cons) rfl ?_; rintro v L' ⟨q, rfl, rfl⟩) | (refine ycall (secNewNil (by omega)) rfl Try.call15 (by repeat first | exact .nil | exact .z | apply Pk.s | apply Tk.cons) rfl ?_; rintro v L' ⟨rfl, rfl⟩)
      refine y (ev_assign rfl) rfl ?_
      refine ynil' (kthn (hK5 _ _ ?_))
      clear hK5
      refine cseq ?_; intro K6 hK6
      refine cseq ?_; intro K7 hK7
      refine creg ?_
      refine y (ev_move rfl) rfl ?_
      refine y (ev_eqlPnil rfl rfl Try.underlying24) rfl ?_
      refine y (ev_move rfl) rfl ?_
      refine yg1 rfl rfl ?_
      refine y (ev_move rfl) rfl ?_
      refine yg1 rfl rfl ?_
      first
        | refine y (ev_len rfl Try.underlying28) rfl ?_
        | refine y (ev_lenSv rfl Try.underlying28 (by assumption)) rfl ?_
        | refine y (ev_lenV rfl Try.underlying28 (RdV.lenVal (by assumption))) rfl ?_
        | refine y (ev_lenV rfl Try.underlying28 (RdB.lenVal (by assumption))) rfl ?_
      refine yg1 rfl rfl ?_
      refine y (ev_gtr rfl rfl) rfl ?_
      refine y (ev_pick0 rfl rfl) rfl ?_
      refine ynil' (kthn (hK7 _ _ ?_))
      clear hK7
      refine ccond rfl (fun h16 => ?_) (fun h16 => ?_)
      · (try simp only [decide_eq_true_eq, beq_iff_eq, beq_eq_false_iff_ne, decide_eq_decide, decide_eq_false_iff_not, Bool.not_eq_true', Bool.not_eq_false', Bool.not_eq_true, Bool.not_eq_false, Bool.not_not, ne_eq, Option.isNone_some, Option.isSome_some, Option.isNone_none, Option.isSome_none] at h16)
        refine cseq ?_; intro K8 hK8
        refine creg ?_
        refine y (ev_assign rfl) rfl ?_
        refine ynil' (kthn (hK8 _ _ ?_))
        clear hK8
        refine cret (kthr ?_)
        first
          | (exfalso; omega; done)
          | (refine kretv Try.results7 rfl (L1 := R) (by repeat first | exact .refl | exact .nil | exact .z | apply Pk.s | refine Ge.e ?_ | apply Ge.pick | apply Ge.drop) ?_
             exact ⟨_, ⟨by first | rfl | (exfalso; omega; done) | (exfalso; simp_all; done) | (simp; omega) | simp_all, rfl⟩, by first | rfl | (exfalso; omega; done) | (exfalso; simp_all; done) | (simp; omega) | simp_all⟩)
      · (try simp only [decide_eq_true_eq, beq_iff_eq, beq_eq_false_iff_ne, decide_eq_decide, decide_eq_false_iff_not, Bool.not_eq_true', Bool.not_eq_false', Bool.not_eq_true, Bool.not_eq_false, Bool.not_not, ne_eq, Option.isNone_some, Option.isSome_some, Option.isNone_none, Option.isSome_none] at h16)
        refine cskip' (kthn (hK6 _ _ ?_))
        clear hK6
        refine cseq ?_; intro K9 hK9
        refine cseq ?_; intro K10 hK10
        refine creg ?_
        refine y (ev_assign rfl) rfl ?_
        refine ynil' (kthn (hK10 _ _ ?_))
        clear hK10
        have hJ1 : ∀ x : Nat × Dev, ((x.2.ok ∧ x.2.l.length = n.toNat ∧ x.1 ≤ acts.length ∧ x.1 ≤ 80) ∧ (True)) → Sk 129 K9 ([(8, i64 x.1), (7, dp q), (1, lv), (0, i64 n), (2, kv)]) ([dev q x.2] ++ R) := by
          rintro ⟨k, D⟩ ⟨hI1, hX1⟩
          refine hK9 _ _ ?_
          obtain ⟨hD, hn1, hk1, hk2⟩ := hI1; dsimp only at hD hn1 hk1 hk2 ⊢
          refine cseq ?_; intro K11 hK11
          refine creg ?_
          refine y (ev_move rfl) rfl ?_
          refine ycall (secCrash (ks := []) ?ok20 ?ks20) rfl Try.call25 (by repeat first | exact .nil | exact .z | apply Pk.s | apply Tk.cons) rfl ?_
          case ok20 => first | exact hU.ok | exact hD
          case ks20 => exact rdV_nil
          rintro v L' ⟨rfl, rfl⟩
          have hU := crash_up hD []
          rw [hn1] at hU
          have hes := crash_es D []
          generalize D.crash [] = D1 at hU hes ⊢
          refine ynil' (kthn (hK11 _ _ ?_))
          clear hK11
          refine cseq ?_; intro K12 hK12
          refine creg ?_
          refine ya (ac_bslice0 Try.underlying57 Try.sizeOf9) rfl ?_
          rintro v L' ⟨b54, rfl, rfl⟩
          refine y (ev_assign rfl) rfl ?_
          refine ynil' (kthn (hK12 _ _ ?_))
          clear hK12
          refine cseq ?_; intro K13 hK13
          refine cseq ?_; intro K14 hK14
          refine creg ?_
          refine y (ev_assign rfl) rfl ?_
          refine ynil' (kthn (hK14 _ _ ?_))
          clear hK14
          have hJ2 : ∀ x : Nat × Sv, ((svOk x.2 x.1 1 (secStr D1 x.1) ∧ x.1 ≤ n.toNat) ∧ (x.1 = n.toNat)) → Sk 129 K13 ([(10, i64 x.1), (9, svVal x.2 x.1), (7, dp q), (0, i64 n), (2, kv)]) ([dev q D1, svSeg x.2 9 (secStr D1 x.1)] ++ R) := by
            rintro ⟨k, s9⟩ ⟨hI2, hX2⟩
            refine hK13 _ _ ?_
            obtain ⟨ok9, hk9⟩ := hI2; dsimp only at ok9 hk9 ⊢
            dsimp only at hX2; subst hX2
            refine cseq ?_; intro K15 hK15
            refine creg ?_
            refine y (ev_move rfl) rfl ?_
            refine y (ev_move rfl) rfl ?_
            refine ycall (secCrash (ks := ks) ?ok26 ?ks26) rfl Try.call25 (by repeat first | exact .nil | exact .z | apply Pk.s | apply Tk.cons) rfl ?_
            case ok26 => first | exact hU.ok | exact hD
            case ks26 => exact hkk.mono (by repeat first | exact .refl | exact .nil | exact .z | apply Pk.s | refine Ge.e ?_ | apply Ge.pick | apply Ge.drop)
            rintro v L' ⟨rfl, rfl⟩
            have hse := sec_crash_nil hes ks
            have hln := hU.len
            have hU := crash_up hU.ok ks
            rw [hln] at hU
            generalize D1.crash ks = D2 at hU hse ⊢
            refine ynil' (kthn (hK15 _ _ ?_))
            clear hK15
            refine cseq ?_; intro K16 hK16
            refine cseq ?_; intro K17 hK17
            refine creg ?_
            refine y (ev_assign rfl) rfl ?_
            refine ynil' (kthn (hK17 _ _ ?_))
            clear hK17
            have hJ3 : ∀ x : Nat, ((x ≤ n.toNat) ∧ (True)) → Sk 129 K16 ([(13, i64 x), (9, svVal s9 n.toNat), (7, dp q), (0, i64 n)]) ([dev q D2, svSeg s9 9 (secStr D1 n.toNat)] ++ R) := by
              rintro k ⟨hI3, hX3⟩
              refine hK16 _ _ ?_
              have hk3 := hI3
              have hp : RdV [svSeg s9 9 (secStr D1 n.toNat)] (svVal s9 n.toNat) n.toNat (secStr D1 n.toNat) := rdV_sv .z ok9
              refine cseq ?_; intro K18 hK18
              refine creg ?_
              refine y (ev_move rfl) rfl ?_
              refine ycall (secLose ?ok29) rfl Try.call28 (by repeat first | exact .nil | exact .z | apply Pk.s | apply Tk.cons) rfl ?_
              case ok29 => first | exact hU.ok | exact hD
              rintro v L' ⟨rfl, rfl⟩
              have hU3 := lose_up hU.ok
              rw [hU.len] at hU3
              refine ynil' (kthn (hK18 _ _ ?_))
              clear hK18
              refine cseq ?_; intro K19 hK19
              refine cseq ?_; intro K20 hK20
              refine creg ?_
              refine y (ev_assign rfl) rfl ?_
              refine ynil' (kthn (hK20 _ _ ?_))
              clear hK20
              have hJ4 : ∀ x : Nat, ((x ≤ n.toNat) ∧ (True)) → Sk 129 K19 ([(16, i64 x), (7, dp q), (0, i64 n)]) ([dev q D2.lose] ++ R) := by
                rintro k ⟨hI4, hX4⟩
                refine hK19 _ _ ?_
                have hk4 := hI4
                refine cseq ?_; intro K21 hK21
                refine creg ?_
                refine y (ev_move rfl) rfl ?_
                refine ycall (secDead) rfl Try.call19 (by repeat first | exact .nil | exact .z | apply Pk.s | apply Tk.cons) rfl ?_
                rintro v L' ⟨rfl, rfl⟩
                rw [show D2.lose.dead = false from rfl]
                refine y (ev_not rfl) rfl ?_
                refine y (ev_move rfl) rfl ?_
                refine ysplit 123 rfl (fun h35 => ?_) (fun h35 => ?_)
                · (try simp only [decide_eq_true_eq, beq_iff_eq, beq_eq_false_iff_ne, decide_eq_decide, decide_eq_false_iff_not, Bool.not_eq_true', Bool.not_eq_false', Bool.not_eq_true, Bool.not_eq_false, Bool.not_not, ne_eq, Option.isNone_some, Option.isSome_some, Option.isNone_none, Option.isSome_none] at h35)
                  refine yg1 rfl rfl ?_
                  refine y (ev_move rfl) rfl ?_
                  refine yg1 rfl rfl ?_
                  refine ycall (secPending ?ok37) rfl Try.call33 (by repeat first | exact .nil | exact .z | apply Pk.s | apply Tk.cons) rfl ?_
                  case ok37 => exact hU3.ok
                  rintro v L' ⟨s125, rfl, ok125, rfl⟩
                  refine yg1 rfl rfl ?_
                  first
                    | refine y (ev_len rfl Try.underlying42) rfl ?_
                    | refine y (ev_lenSv rfl Try.underlying42 (by assumption)) rfl ?_
                    | refine y (ev_lenV rfl Try.underlying42 (RdV.lenVal (by assumption))) rfl ?_
                    | refine y (ev_lenV rfl Try.underlying42 (RdB.lenVal (by assumption))) rfl ?_
                  refine yg1 rfl rfl ?_
                  refine y (ev_eql rfl rfl) rfl ?_
                  refine y (ev_pick1 rfl rfl) rfl ?_
                  refine y (ev_assign rfl) rfl ?_
                  refine ynil' (kthn (hK21 _ _ ?_))
                  clear hK21
                  refine cret ?_
                  first
                    | (exfalso; omega; done)
                    | (refine kretv Try.results7 rfl (L1 := R) (by repeat first | exact .refl | exact .nil | exact .z | apply Pk.s | refine Ge.e ?_ | apply Ge.pick | apply Ge.drop) ?_
                       exact ⟨_, ⟨by first | rfl | (exfalso; omega; done) | (exfalso; simp_all; done) | (simp; omega) | simp_all, rfl⟩, by first | rfl | (exfalso; omega; done) | (exfalso; simp_all; done) | (simp; omega) | simp_all⟩)
                · (try simp only [decide_eq_true_eq, beq_iff_eq, beq_eq_false_iff_ne, decide_eq_decide, decide_eq_false_iff_not, Bool.not_eq_true', Bool.not_eq_false', Bool.not_eq_true, Bool.not_eq_false, Bool.not_not, ne_eq, Option.isNone_some, Option.isSome_some, Option.isNone_none, Option.isSome_none] at h35)
                  refine yg0 rfl rfl rfl rfl ?_
                  refine yg0 rfl rfl rfl rfl ?_
                  refine yg0 rfl rfl rfl rfl ?_
                  refine yg0 rfl rfl rfl rfl ?_
                  refine y (ev_pick0 rfl rfl) rfl ?_
                  refine y (ev_assign rfl) rfl ?_
                  refine ynil' (kthn (hK21 _ _ ?_))
                  clear hK21
                  refine cret ?_
                  first
                    | (exfalso; omega; done)
                    | (refine kretv Try.results7 rfl (L1 := R) (by repeat first | exact .refl | exact .nil | exact .z | apply Pk.s | refine Ge.e ?_ | apply Ge.pick | apply Ge.drop) ?_
                       exact ⟨_, ⟨by first | rfl | (exfalso; omega; done) | (exfalso; simp_all; done) | (simp; omega) | simp_all, rfl⟩, by first | rfl | (exfalso; omega; done) | (exfalso; simp_all; done) | (simp; omega) | simp_all⟩)
              clear hK19
              refine cblock ?_
              refine cloop (A := Nat) (fun x => [(16, i64 x), (7, dp q), (0, i64 n)]) (fun x => [dev q D2.lose] ++ R) (fun x => x ≤ n.toNat) (fun x => n.toNat - x) (0) ?_ (by repeat first | exact sub_nil | refine sub_cons rfl ?_ | refine sub_cons' rfl (by simp) ?_) (by repeat first | exact .refl | exact .nil | exact .z | apply Pk.s | refine Ge.e ?_ | apply Ge.pick | apply Ge.drop) ?_
              · exact Nat.zero_le _
              rintro k hI4 KL4 hL4
              have hI4o := hI4
              have hk4 := hI4
              refine cseq ?_; intro K22 hK22
              refine cseq ?_; intro K23 hK23
              refine creg ?_
              refine y (ev_move rfl) rfl ?_
              refine y (ev_move rfl) rfl ?_
              refine y (ev_lss rfl rfl) rfl ?_
              refine ynil' (kthn (hK23 _ _ ?_))
              clear hK23
              refine ccond rfl (fun h47 => ?_) (fun h47 => ?_)
              · (try simp only [decide_eq_true_eq, beq_iff_eq, beq_eq_false_iff_ne, decide_eq_decide, decide_eq_false_iff_not, Bool.not_eq_true', Bool.not_eq_false', Bool.not_eq_true, Bool.not_eq_false, Bool.not_not, ne_eq, Option.isNone_some, Option.isSome_some, Option.isNone_none, Option.isSome_none] at h47)
                refine cskip' (kthn (hK22 _ _ ?_))
                clear hK22
                refine cseq ?_; intro K24 hK24
                refine cblock ?_
                refine cseq ?_; intro K25 hK25
                refine creg ?_
                refine y (ev_move rfl) rfl ?_
                refine y (ev_move rfl) rfl ?_
                refine ycall (secReadOk hU3.ok (by rw [hU3.has]; exact if_neg (by omega))) rfl Try.call30 (by repeat first | exact .nil | exact .z | apply Pk.s | apply Tk.cons) rfl ?_
                rintro v L' ⟨b106, cap106, sp106, rfl, hc106, rfl⟩
                rw [sec_lose (show (0 : Int) ≤ (k : Int) by omega) (by rw [hU.len]; omega)]
                refine y (ev_move rfl) rfl ?_
                refine y (ev_extract rfl rfl) rfl ?_
                refine y (ev_extract rfl rfl) rfl ?_
                refine y (ev_assign rfl) rfl ?_
                refine y (ev_assign rfl) rfl ?_
                refine ynil' (kthn (hK25 _ _ ?_))
                clear hK25
                refine cseq ?_; intro K26 hK26
                refine creg ?_
                refine y (ev_move rfl) rfl ?_
                first
                  | refine y (ev_len rfl Try.underlying27) rfl ?_
                  | refine y (ev_lenSv rfl Try.underlying27 (by assumption)) rfl ?_
                  | refine y (ev_lenV rfl Try.underlying27 (RdV.lenVal (by assumption))) rfl ?_
                  | refine y (ev_lenV rfl Try.underlying27 (RdB.lenVal (by assumption))) rfl ?_
                refine y (ev_move rfl) rfl ?_
                refine ynil' (kthn (hK26 _ _ ?_))
                clear hK26
                refine cblock ?_
                refine cloop (A := Nat) (fun x => [(111, i64 x), (110, i64 144), (17, .slice (some ⟨b106, 0, none⟩) 144 cap106), (16, i64 k), (7, dp q), (0, i64 n)]) (fun x => [sc b106 (bytesV zsec ++ sp106) 5, dev q D2.lose] ++ R) (fun x => x ≤ 144) (fun x => 144 - x) (0) ?_ (by repeat first | exact sub_nil | refine sub_cons rfl ?_ | refine sub_cons' rfl (by simp) ?_) (by repeat first | exact .refl | exact .nil | exact .z | apply Pk.s | refine Ge.e ?_ | apply Ge.pick | apply Ge.drop) ?_
                · exact Nat.zero_le _
                rintro z hI5 KL5 hL5
                have hI5o := hI5
                have hz5 := hI5
                refine cseq ?_; intro K27 hK27
                refine creg ?_
                refine y (ev_lss rfl rfl) rfl ?_
                refine ynil' (kthn (hK27 _ _ ?_))
                clear hK27
                refine cseq ?_; intro K28 hK28
                refine ccond rfl (fun h60 => ?_) (fun h60 => ?_)
                · (try simp only [decide_eq_true_eq, beq_iff_eq, beq_eq_false_iff_ne, decide_eq_decide, decide_eq_false_iff_not, Bool.not_eq_true', Bool.not_eq_false', Bool.not_eq_true, Bool.not_eq_false, Bool.not_not, ne_eq, Option.isNone_some, Option.isSome_some, Option.isNone_none, Option.isSome_none] at h60)
                  refine cskip' (kthn (hK28 _ _ ?_))
                  clear hK28
                  refine cseq ?_; intro K29 hK29
                  refine cblock ?_
                  refine cseq ?_; intro K30 hK30
                  refine creg ?_
                  refine y (ev_move rfl) rfl ?_
                  refine y (ev_assign rfl) rfl ?_
                  refine ynil' (kthn (hK30 _ _ ?_))
                  clear hK30
                  refine cseq ?_; intro K31 hK31
                  refine creg ?_
                  refine y (ev_move rfl) rfl ?_
                  refine y (ev_move rfl) rfl ?_
                  first
                    | refine y (ev_ixAddr rfl rfl Try.underlying27 Try.sizeOf5 (by omega) (by omega)) rfl ?_
                    | refine y (ev_ixV (by assumption) rfl rfl Try.underlying27 Try.sizeOf5 (by omega) (by omega)) rfl ?_
                  refine y (ev_load rfl Try.isAgg5 (by repeat first | exact .z | apply In.s) (by rw [show 0 + (z : Int).toNat * 1 = z by simp]; exact zsec_get (by omega))) rfl ?_
                  refine y (ev_neq rfl rfl) rfl ?_
                  refine ynil' (kthn (hK31 _ _ ?_))
                  clear hK31
                  refine ccond rfl (fun h68 => ?_) (fun h68 => ?_)
                  · (try simp only [decide_eq_true_eq, beq_iff_eq, beq_eq_false_iff_ne, decide_eq_decide, decide_eq_false_iff_not, Bool.not_eq_true', Bool.not_eq_false', Bool.not_eq_true, Bool.not_eq_false, Bool.not_not, ne_eq, Option.isNone_some, Option.isSome_some, Option.isNone_none, Option.isSome_none] at h68)
                    refine cseq ?_; intro K32 hK32
                    refine creg ?_
                    refine y (ev_assign rfl) rfl ?_
                    refine ynil' (kthn (hK32 _ _ ?_))
                    clear hK32
                    refine cret (kbr (kthr (kthr (kbr (kbr (kthr (kthr (kbr (kthr ?_)))))))))
                    first
                      | (exfalso; omega; done)
                      | (refine kretv Try.results7 rfl (L1 := R) (by repeat first | exact .refl | exact .nil | exact .z | apply Pk.s | refine Ge.e ?_ | apply Ge.pick | apply Ge.drop) ?_
                         exact ⟨_, ⟨by first | rfl | (exfalso; omega; done) | (exfalso; simp_all; done) | (simp; omega) | simp_all, rfl⟩, by first | rfl | (exfalso; omega; done) | (exfalso; simp_all; done) | (simp; omega) | simp_all⟩)
                  · (try simp only [decide_eq_true_eq, beq_iff_eq, beq_eq_false_iff_ne, decide_eq_decide, decide_eq_false_iff_not, Bool.not_eq_true', Bool.not_eq_false', Bool.not_eq_true, Bool.not_eq_false, Bool.not_not, ne_eq, Option.isNone_some, Option.isSome_some, Option.isNone_none, Option.isSome_none] at h68)
                    refine cskip' (kbn (kthn (hK29 _ _ ?_)))
                    clear hK29
                    refine creg ?_
                    refine y (ev_add rfl rfl) rfl ?_
                    rw [show IntKind.i64.wrap ((z:Int) + 1) = ((z+1 : Nat) : Int) by rw [wr (by omega) (by omega)]; rfl]
                    refine y (ev_move rfl) rfl ?_
                    refine ynil' (kthn ?_)
                    first
                      | (exfalso; omega; done)
                      | exact hL5 (z + 1) (show z + 1 ≤ 144 by omega) (by omega) _ _ (by repeat first | exact sub_nil | refine sub_cons rfl ?_ | refine sub_cons' rfl (by simp) ?_) (by repeat first | exact .refl | exact .nil | exact .z | apply Pk.s | refine Ge.e ?_ | apply Ge.pick | apply Ge.drop)
                · (try simp only [decide_eq_true_eq, beq_iff_eq, beq_eq_false_iff_ne, decide_eq_decide, decide_eq_false_iff_not, Bool.not_eq_true', Bool.not_eq_false', Bool.not_eq_true, Bool.not_eq_false, Bool.not_not, ne_eq, Option.isNone_some, Option.isSome_some, Option.isNone_none, Option.isSome_none] at h60)
                  refine cexit (kthx (kthx (kbx (kbn (kthn (hK24 _ _ ?_))))))
                  clear hK24
                  refine creg ?_
                  refine y (ev_move rfl) rfl ?_
                  refine y (ev_add rfl rfl) rfl ?_
                  rw [show IntKind.i64.wrap ((k:Int) + 1) = ((k+1 : Nat) : Int) by rw [wr (by omega) (by omega)]; rfl]
                  refine y (ev_assign rfl) rfl ?_
                  refine ynil' (kthn ?_)
                  exact hL4 (k + 1) (show k + 1 ≤ n.toNat by omega) (by omega) _ _ (by repeat first | exact sub_nil | refine sub_cons rfl ?_ | refine sub_cons' rfl (by simp) ?_) (by repeat first | exact .refl | exact .nil | exact .z | apply Pk.s | refine Ge.e ?_ | apply Ge.pick | apply Ge.drop)
              · (try simp only [decide_eq_true_eq, beq_iff_eq, beq_eq_false_iff_ne, decide_eq_decide, decide_eq_false_iff_not, Bool.not_eq_true', Bool.not_eq_false', Bool.not_eq_true, Bool.not_eq_false, Bool.not_not, ne_eq, Option.isNone_some, Option.isSome_some, Option.isNone_none, Option.isSome_none] at h47)
                refine cexit (kthx (kthx (kbx (kthn ?_))))
                exact ksub (by repeat first | exact sub_nil | refine sub_cons rfl ?_ | refine sub_cons' rfl (by simp) ?_) (by repeat first | exact .refl | exact .nil | exact .z | apply Pk.s | refine Ge.e ?_ | apply Ge.pick | apply Ge.drop) (hJ4 k ⟨hI4o, by first | trivial | omega⟩)
            clear hK16
            refine cblock ?_
            refine cloop (A := Nat) (fun x => [(13, i64 x), (9, svVal s9 n.toNat), (7, dp q), (0, i64 n)]) (fun x => [dev q D2, svSeg s9 9 (secStr D1 n.toNat)] ++ R) (fun x => x ≤ n.toNat) (fun x => n.toNat - x) (0) ?_ (by repeat first | exact sub_nil | refine sub_cons rfl ?_ | refine sub_cons' rfl (by simp) ?_) (by repeat first | exact .refl | exact .nil | exact .z | apply Pk.s | refine Ge.e ?_ | apply Ge.pick | apply Ge.drop) ?_
            · exact Nat.zero_le _
            rintro k hI3 KL3 hL3
            have hI3o := hI3
            have hk3 := hI3
            have hp : RdV [svSeg s9 9 (secStr D1 n.toNat)] (svVal s9 n.toNat) n.toNat (secStr D1 n.toNat) := rdV_sv .z ok9
            refine cseq ?_; intro K33 hK33
            refine cseq ?_; intro K34 hK34
            refine creg ?_
            refine y (ev_move rfl) rfl ?_
            refine y (ev_move rfl) rfl ?_
            refine y (ev_lss rfl rfl) rfl ?_
            refine ynil' (kthn (hK34 _ _ ?_))
            clear hK34
            refine ccond rfl (fun h78 => ?_) (fun h78 => ?_)
            · (try simp only [decide_eq_true_eq, beq_iff_eq, beq_eq_false_iff_ne, decide_eq_decide, decide_eq_false_iff_not, Bool.not_eq_true', Bool.not_eq_false', Bool.not_eq_true, Bool.not_eq_false, Bool.not_not, ne_eq, Option.isNone_some, Option.isSome_some, Option.isNone_none, Option.isSome_none] at h78)
              refine cskip' (kthn (hK33 _ _ ?_))
              clear hK33
              refine cseq ?_; intro K35 hK35
              refine cblock ?_
              refine cseq ?_; intro K36 hK36
              refine creg ?_
              refine y (ev_move rfl) rfl ?_
              refine y (ev_move rfl) rfl ?_
              refine ycall (secReadOk hU.ok (by rw [hU.has]; exact if_neg (by omega))) rfl Try.call30 (by repeat first | exact .nil | exact .z | apply Pk.s | apply Tk.cons) rfl ?_
              rintro v L' ⟨b82, cap82, sp82, rfl, hc82, rfl⟩
              refine y (ev_move rfl) rfl ?_
              refine y (ev_extract rfl rfl) rfl ?_
              refine y (ev_extract rfl rfl) rfl ?_
              refine y (ev_assign rfl) rfl ?_
              refine y (ev_assign rfl) rfl ?_
              refine ynil' (kthn (hK36 _ _ ?_))
              clear hK36
              refine cseq ?_; intro K37 hK37
              refine cdraw 10 [(0, true), (1, true), (2, true), (3, true), (4, true), (5, true), (6, true), (7, true), (8, true), (9, true)] (_) Try.mixed (by kernel_rfl) .refl ?_
              refine hr rfl (ev_move rfl) rfl ?_
              refine hr rfl (ev_neq rfl rfl) rfl ?_
              refine hr rfl (ev_move rfl) rfl ?_
              refine hsplit 87 rfl (fun h90 => ?_) (fun h90 => ?_)
              · (try simp only [decide_eq_true_eq, beq_iff_eq, beq_eq_false_iff_ne, decide_eq_decide, decide_eq_false_iff_not, Bool.not_eq_true', Bool.not_eq_false', Bool.not_eq_true, Bool.not_eq_false, Bool.not_not, ne_eq, Option.isNone_some, Option.isSome_some, Option.isNone_none, Option.isSome_none] at h90)
                refine hr0 rfl rfl rfl rfl rfl ?_
                refine hr0 rfl rfl rfl rfl rfl ?_
                refine hr0 rfl rfl rfl rfl rfl ?_
                refine hr0 rfl rfl rfl rfl rfl ?_
                refine hr0 rfl rfl rfl rfl rfl ?_
                refine hr0 rfl rfl rfl rfl rfl ?_
                refine hr0 rfl rfl rfl rfl rfl ?_
                refine hnil ?_
                refine y (ev_pick1 rfl rfl) rfl ?_
                refine hnoP' (kthn (hK37 _ _ ?_))
                clear hK37
                refine ccond1 rfl ?_
                refine cseq ?_; intro K38 hK38
                refine creg ?_
                refine y (ev_assign rfl) rfl ?_
                refine ynil' (kthn (hK38 _ _ ?_))
                clear hK38
                refine cret (kbr (kthr (kthr (kbr (kthr ?_)))))
                first
                  | (exfalso; omega; done)
                  | (refine kretv Try.results7 rfl (L1 := R) (by repeat first | exact .refl | exact .nil | exact .z | apply Pk.s | refine Ge.e ?_ | apply Ge.pick | apply Ge.drop) ?_
                     exact ⟨_, ⟨by first | rfl | (exfalso; omega; done) | (exfalso; simp_all; done) | (simp; omega) | simp_all, rfl⟩, by first | rfl | (exfalso; omega; done) | (exfalso; simp_all; done) | (simp; omega) | simp_all⟩)
              · (try simp only [decide_eq_true_eq, beq_iff_eq, beq_eq_false_iff_ne, decide_eq_decide, decide_eq_false_iff_not, Bool.not_eq_true', Bool.not_eq_false', Bool.not_eq_true, Bool.not_eq_false, Bool.not_not, ne_eq, Option.isNone_some, Option.isSome_some, Option.isNone_none, Option.isSome_none] at h90)
                refine hr1 rfl rfl rfl (ev_move rfl) rfl ?_
                refine hr1 rfl rfl rfl (ev_toStr (bs := D2.sec k) rfl Try.underlying27 Try.underlying9 Try.underlying5 (sec_length hU.ok _).symm (by repeat first | exact .z | apply In.s) (sec_take (sec_length hU.ok _))) rfl ?_
                refine hr1 rfl rfl rfl (ev_move rfl) rfl ?_
                refine hr1 rfl rfl rfl (ev_move rfl) rfl ?_
                first
                  | refine hr1 rfl rfl rfl (ev_ixAddr rfl rfl Try.underlying57 Try.sizeOf9 (by omega) (by omega)) rfl ?_
                  | refine hr1 rfl rfl rfl (ev_ixV (by assumption) rfl rfl Try.underlying57 Try.sizeOf9 (by omega) (by omega)) rfl ?_
                refine hr1 rfl rfl rfl (ev_loadV k hp (by repeat first | exact .refl | exact .nil | exact .z | apply Pk.s | refine Ge.e ?_ | apply Ge.pick | apply Ge.drop) rfl Try.isAgg9 (by simp) (secStr_get (by omega))) rfl ?_
                first
                  | refine hr1 rfl rfl rfl (ev_neqL rfl rfl) rfl ?_
                  | refine hr1 rfl rfl rfl (ev_neqS rfl rfl) rfl ?_
                refine hnil ?_
                refine y (ev_pick0 rfl rfl) rfl ?_
                refine hnoP' (kthn (hK37 _ _ ?_))
                clear hK37
                refine ccond rfl (fun h101 => ?_) (fun h101 => ?_)
                · (try simp only [decide_eq_true_eq, beq_iff_eq, beq_eq_false_iff_ne, decide_eq_decide, decide_eq_false_iff_not, Bool.not_eq_true', Bool.not_eq_false', Bool.not_eq_true, Bool.not_eq_false, Bool.not_not, ne_eq, Option.isNone_some, Option.isSome_some, Option.isNone_none, Option.isSome_none] at h101)
                  refine cseq ?_; intro K39 hK39
                  refine creg ?_
                  refine y (ev_assign rfl) rfl ?_
                  refine ynil' (kthn (hK39 _ _ ?_))
                  clear hK39
                  refine cret (kbr (kthr (kthr (kbr (kthr ?_)))))
                  first
                    | (exfalso; omega; done)
                    | (refine kretv Try.results7 rfl (L1 := R) (by repeat first | exact .refl | exact .nil | exact .z | apply Pk.s | refine Ge.e ?_ | apply Ge.pick | apply Ge.drop) ?_
                       exact ⟨_, ⟨by first | rfl | (exfalso; omega; done) | (exfalso; simp_all; done) | (simp; omega) | simp_all, rfl⟩, by first | rfl | (exfalso; omega; done) | (exfalso; simp_all; done) | (simp; omega) | simp_all⟩)
                · (try simp only [decide_eq_true_eq, beq_iff_eq, beq_eq_false_iff_ne, decide_eq_decide, decide_eq_false_iff_not, Bool.not_eq_true', Bool.not_eq_false', Bool.not_eq_true, Bool.not_eq_false, Bool.not_not, ne_eq, Option.isNone_some, Option.isSome_some, Option.isNone_none, Option.isSome_none] at h101)
                  refine cskip' (kbn (kthn (hK35 _ _ ?_)))
                  clear hK35
                  refine creg ?_
                  refine y (ev_move rfl) rfl ?_
                  refine y (ev_add rfl rfl) rfl ?_
                  rw [show IntKind.i64.wrap ((k:Int) + 1) = ((k+1 : Nat) : Int) by rw [wr (by omega) (by omega)]; rfl]
                  refine y (ev_assign rfl) rfl ?_
                  refine ynil' (kthn ?_)
                  first
                    | (exfalso; omega; done)
                    | exact hL3 (k + 1) (show k + 1 ≤ n.toNat by omega) (by omega) _ _ (by repeat first | exact sub_nil | refine sub_cons rfl ?_ | refine sub_cons' rfl (by simp) ?_) (by repeat first | exact .refl | exact .nil | exact .z | apply Pk.s | refine Ge.e ?_ | apply Ge.pick | apply Ge.drop)
            · (try simp only [decide_eq_true_eq, beq_iff_eq, beq_eq_false_iff_ne, decide_eq_decide, decide_eq_false_iff_not, Bool.not_eq_true', Bool.not_eq_false', Bool.not_eq_true, Bool.not_eq_false, Bool.not_not, ne_eq, Option.isNone_some, Option.isSome_some, Option.isNone_none, Option.isSome_none] at h78)
              refine cexit (kthx (kthx (kbx (kthn ?_))))
              exact ksub (by repeat first | exact sub_nil | refine sub_cons rfl ?_ | refine sub_cons' rfl (by simp) ?_) (by repeat first | exact .refl | exact .nil | exact .z | apply Pk.s | refine Ge.e ?_ | apply Ge.pick | apply Ge.drop) (hJ3 k ⟨hI3o, by first | trivial | omega⟩)
          clear hK13
          refine cblock ?_
          refine cloop (A := Nat × Sv) (fun x => [(10, i64 x.1), (9, svVal x.2 x.1), (7, dp q), (0, i64 n), (2, kv)]) (fun x => [dev q D1, svSeg x.2 9 (secStr D1 x.1)] ++ R) (fun x => svOk x.2 x.1 1 (secStr D1 x.1) ∧ x.1 ≤ n.toNat) (fun x => n.toNat - x.1) ((0, some (b54, 0, []))) ?_ (by repeat first | exact sub_nil | refine sub_cons rfl ?_ | refine sub_cons' rfl (by simp) ?_) (by repeat first | exact .refl | exact .nil | exact .z | apply Pk.s | refine Ge.e ?_ | apply Ge.pick | apply Ge.drop) ?_
          · exact ⟨⟨Nat.le_refl _, Nat.zero_le _, rfl, rfl⟩, Nat.zero_le _⟩
          rintro ⟨k, s9⟩ hI2 KL2 hL2
          have hI2o := hI2
          obtain ⟨ok9, hk9⟩ := hI2; dsimp only at ok9 hk9 ⊢
          refine cseq ?_; intro K40 hK40
          refine cseq ?_; intro K41 hK41
          refine creg ?_
          refine y (ev_move rfl) rfl ?_
          refine y (ev_move rfl) rfl ?_
          refine y (ev_lss rfl rfl) rfl ?_
          refine ynil' (kthn (hK41 _ _ ?_))
          clear hK41
          refine ccond rfl (fun h109 => ?_) (fun h109 => ?_)
          · (try simp only [decide_eq_true_eq, beq_iff_eq, beq_eq_false_iff_ne, decide_eq_decide, decide_eq_false_iff_not, Bool.not_eq_true', Bool.not_eq_false', Bool.not_eq_true, Bool.not_eq_false, Bool.not_not, ne_eq, Option.isNone_some, Option.isSome_some, Option.isNone_none, Option.isSome_none] at h109)
            refine cskip' (kthn (hK40 _ _ ?_))
            clear hK40
            refine cseq ?_; intro K42 hK42
            refine cblock ?_
            refine cseq ?_; intro K43 hK43
            refine creg ?_
            refine y (ev_move rfl) rfl ?_
            refine y (ev_move rfl) rfl ?_
            refine ycall (secReadOk hU.ok (by rw [hU.has]; exact if_neg (by omega))) rfl Try.call30 (by repeat first | exact .nil | exact .z | apply Pk.s | apply Tk.cons) rfl ?_
            rintro v L' ⟨b63, cap63, sp63, rfl, hc63, rfl⟩
            refine y (ev_move rfl) rfl ?_
            refine y (ev_extract rfl rfl) rfl ?_
            refine y (ev_extract rfl rfl) rfl ?_
            refine y (ev_assign rfl) rfl ?_
            refine y (ev_assign rfl) rfl ?_
            refine ynil' (kthn (hK43 _ _ ?_))
            clear hK43
            refine creg ?_
            refine y (ev_move rfl) rfl ?_
            refine y (ev_move rfl) rfl ?_
            refine y (ev_toStr (bs := D1.sec k) rfl Try.underlying27 Try.underlying9 Try.underlying5 (sec_length hU.ok _).symm (by repeat first | exact .z | apply In.s) (sec_take (sec_length hU.ok _))) rfl ?_
            refine ya (ac_bsliceR rfl Try.underlying57 Try.sizeOf9 Try.zeroValue9 rfl rfl rfl rfl ⟨⟨_, _, rfl, (by first | rfl | simp), (by first | decide | simp)⟩, trivial⟩ (by dsimp [fillL, splice, vcells, reps] <;> rfl)) rfl ?_
            rintro v L' ⟨b69, rfl, rfl⟩
            refine ya (ac_append (xs := secStr D1 k) (m := k) (k := 1) (us := [.string ⟨(D1.sec k).toArray⟩]) (size := 1) rfl rfl (by repeat first | exact .z | apply Pk.s) Try.underlying57 Try.underlying57 (by intro q hq; cases hq) Try.typeInfo9 rfl rfl rfl ?ok122 ?src122 ?one122 ?big122) rfl ?_
            case ok122 => exact ok9
            case src122 => exact src_at (by repeat first | exact .z | apply In.s) rfl rfl
            case one122 => simp [Value.oneCell']
            case big122 => show (k + 1) * 17 ≤ _; omega
            rintro v L' ⟨s70, rfl, ok70, rfl⟩
            rw [← secStr_succ] at ok70 ⊢
            refine y (ev_assign rfl) rfl ?_
            refine ynil' (kbn (kthn (hK42 _ _ ?_)))
            clear hK42
            refine creg ?_
            refine y (ev_move rfl) rfl ?_
            refine y (ev_add rfl rfl) rfl ?_
            rw [show IntKind.i64.wrap ((k:Int) + 1) = ((k+1 : Nat) : Int) by rw [wr (by omega) (by omega)]; rfl]
            refine y (ev_assign rfl) rfl ?_
            refine ynil' (kthn ?_)
            exact hL2 ((k + 1, s70)) (⟨ok70, by dsimp only; omega⟩) (by dsimp only; omega) _ _ (by repeat first | exact sub_nil | refine sub_cons rfl ?_ | refine sub_cons' rfl (by simp) ?_) (by repeat first | exact .refl | exact .nil | exact .z | apply Pk.s | refine Ge.e ?_ | apply Ge.pick | apply Ge.drop)
          · (try simp only [decide_eq_true_eq, beq_iff_eq, beq_eq_false_iff_ne, decide_eq_decide, decide_eq_false_iff_not, Bool.not_eq_true', Bool.not_eq_false', Bool.not_eq_true, Bool.not_eq_false, Bool.not_not, ne_eq, Option.isNone_some, Option.isSome_some, Option.isNone_none, Option.isSome_none] at h109)
            refine cexit (kthx (kthx (kbx (kthn ?_))))
            exact ksub (by repeat first | exact sub_nil | refine sub_cons rfl ?_ | refine sub_cons' rfl (by simp) ?_) (by repeat first | exact .refl | exact .nil | exact .z | apply Pk.s | refine Ge.e ?_ | apply Ge.pick | apply Ge.drop) (hJ2 ⟨k, s9⟩ ⟨hI2o, by first | trivial | omega⟩)
        clear hK9
        refine cblock ?_
        refine cloop (A := Nat × Dev) (fun x => [(8, i64 x.1), (7, dp q), (1, lv), (0, i64 n), (2, kv)]) (fun x => [dev q x.2] ++ R) (fun x => x.2.ok ∧ x.2.l.length = n.toNat ∧ x.1 ≤ acts.length ∧ x.1 ≤ 80) (fun x => acts.length - x.1) ((0, Dev.new n.toNat)) ?_ (by repeat first | exact sub_nil | refine sub_cons rfl ?_ | refine sub_cons' rfl (by simp) ?_) (by repeat first | exact .refl | exact .nil | exact .z | apply Pk.s | refine Ge.e ?_ | apply Ge.pick | apply Ge.drop) ?_
        · exact ⟨Dev.new_ok (by omega), by simp [Dev.new], Nat.zero_le _, Nat.zero_le _⟩
        rintro ⟨k, D⟩ hI1 KL1 hL1
        have hI1o := hI1
        obtain ⟨hD, hn1, hk1, hk2⟩ := hI1; dsimp only at hD hn1 hk1 hk2 ⊢
        refine cseq ?_; intro K44 hK44
        refine cseq ?_; intro K45 hK45
        refine creg ?_
        refine y (ev_move rfl) rfl ?_
        refine y (ev_move rfl) rfl ?_
        first
          | refine y (ev_len rfl Try.underlying22) rfl ?_
          | refine y (ev_lenSv rfl Try.underlying22 (by assumption)) rfl ?_
          | refine y (ev_lenV rfl Try.underlying22 (RdV.lenVal (by assumption))) rfl ?_
          | refine y (ev_lenV rfl Try.underlying22 (RdB.lenVal (by assumption))) rfl ?_
        refine y (ev_lss rfl rfl) rfl ?_
        refine y (ev_move rfl) rfl ?_
        refine ysplit 35 rfl (fun h132 => ?_) (fun h132 => ?_)
        · (try simp only [decide_eq_true_eq, beq_iff_eq, beq_eq_false_iff_ne, decide_eq_decide, decide_eq_false_iff_not, Bool.not_eq_true', Bool.not_eq_false', Bool.not_eq_true, Bool.not_eq_false, Bool.not_not, ne_eq, Option.isNone_some, Option.isSome_some, Option.isNone_none, Option.isSome_none] at h132)
          refine yg1 rfl rfl ?_
          refine y (ev_move rfl) rfl ?_
          refine yg1 rfl rfl ?_
          refine y (ev_lss rfl rfl) rfl ?_
          refine y (ev_pick1 rfl rfl) rfl ?_
          refine ynil' (kthn (hK45 _ _ ?_))
          clear hK45
          refine ccond rfl (fun h136 => ?_) (fun h136 => ?_)
          · (try simp only [decide_eq_true_eq, beq_iff_eq, beq_eq_false_iff_ne, decide_eq_decide, decide_eq_false_iff_not, Bool.not_eq_true', Bool.not_eq_false', Bool.not_eq_true, Bool.not_eq_false, Bool.not_not, ne_eq, Option.isNone_some, Option.isSome_some, Option.isNone_none, Option.isSome_none] at h136)
            obtain ⟨a, hka⟩ : ∃ a, acts[k]? = some a := ⟨_, List.getElem?_eq_getElem (by omega)⟩
            have hact := haa a (List.mem_of_getElem? hka)
            refine cskip' (kthn (hK44 _ _ ?_))
            clear hK44
            refine cseq ?_; intro K46 hK46
            refine cblock ?_
            refine cseq ?_; intro K47 hK47
            refine cseq ?_; intro K48 hK48
            refine creg ?_
            refine y (ev_move rfl) rfl ?_
            refine y (ev_move rfl) rfl ?_
            first
              | refine y (ev_ixAddr rfl rfl Try.underlying22 Try.sizeOf30 (by omega) (by omega)) rfl ?_
              | refine y (ev_ixV (by assumption) rfl rfl Try.underlying22 Try.sizeOf30 (by omega) (by omega)) rfl ?_
            refine y (ev_loadNV (us := a.cells) (k * 4) hl (by repeat first | exact .refl | exact .nil | exact .z | apply Pk.s | refine Ge.e ?_ | apply Ge.pick | apply Ge.drop) rfl Try.isAgg30 Try.sizeOf30 (by simp) (actsV_get _ _ _ hka) rfl) rfl ?_
            refine ycall (large ?act141) rfl Try.call21 (by repeat first | exact .nil | exact .z | apply Pk.s | apply Tk.cons) rfl ?_
            case act141 => exact hact.mono (by repeat first | exact .refl | exact .nil | exact .z | apply Pk.s | refine Ge.e ?_ | apply Ge.pick | apply Ge.drop)
            rintro v L' ⟨rfl, rfl⟩
            refine ynil' (kthn (hK48 _ _ ?_))
            clear hK48
            refine ccond rfl (fun h142 => ?_) (fun h142 => ?_)
            · (try simp only [decide_eq_true_eq, beq_iff_eq, beq_eq_false_iff_ne, decide_eq_decide, decide_eq_false_iff_not, Bool.not_eq_true', Bool.not_eq_false', Bool.not_eq_true, Bool.not_eq_false, Bool.not_not, ne_eq, Option.isNone_some, Option.isSome_some, Option.isNone_none, Option.isSome_none] at h142)
              refine cseq ?_; intro K49 hK49
              refine creg ?_
              refine y (ev_assign rfl) rfl ?_
              refine ynil' (kthn (hK49 _ _ ?_))
              clear hK49
              refine cret (kthr (kbr (kthr (kthr (kbr (kthr ?_))))))
              first
                | (exfalso; omega; done)
                | (refine kretv Try.results7 rfl (L1 := R) (by repeat first | exact .refl | exact .nil | exact .z | apply Pk.s | refine Ge.e ?_ | apply Ge.pick | apply Ge.drop) ?_
                   exact ⟨_, ⟨by first | rfl | (exfalso; omega; done) | (exfalso; simp_all; done) | (simp; omega) | simp_all, rfl⟩, by first | rfl | (exfalso; omega; done) | (exfalso; simp_all; done) | (simp; omega) | simp_all⟩)
            · (try simp only [decide_eq_true_eq, beq_iff_eq, beq_eq_false_iff_ne, decide_eq_decide, decide_eq_false_iff_not, Bool.not_eq_true', Bool.not_eq_false', Bool.not_eq_true, Bool.not_eq_false, Bool.not_not, ne_eq, Option.isNone_some, Option.isSome_some, Option.isNone_none, Option.isSome_none] at h142)
              refine cskip' (kthn (hK47 _ _ ?_))
              clear hK47
              refine creg ?_
              refine y (ev_move rfl) rfl ?_
              refine y (ev_move rfl) rfl ?_
              refine y (ev_move rfl) rfl ?_
              first
                | refine y (ev_ixAddr rfl rfl Try.underlying22 Try.sizeOf30 (by omega) (by omega)) rfl ?_
                | refine y (ev_ixV (by assumption) rfl rfl Try.underlying22 Try.sizeOf30 (by omega) (by omega)) rfl ?_
              refine y (ev_loadNV (us := a.cells) (k * 4) hl (by repeat first | exact .refl | exact .nil | exact .z | apply Pk.s | refine Ge.e ?_ | apply Ge.pick | apply Ge.drop) rfl Try.isAgg30 Try.sizeOf30 (by simp) (actsV_get _ _ _ hka) rfl) rfl ?_
              refine ycall (play ?ok149 ?act149) rfl Try.call36 (by repeat first | exact .nil | exact .z | apply Pk.s | apply Tk.cons) rfl ?_
              case ok149 => first | exact hU.ok | exact hD
              case act149 => exact hact.mono (by repeat first | exact .refl | exact .nil | exact .z | apply Pk.s | refine Ge.e ?_ | apply Ge.pick | apply Ge.drop)
              rintro v L' ⟨rfl, rfl⟩
              refine ynil' (kbn (kthn (hK46 _ _ ?_)))
              clear hK46
              refine creg ?_
              refine y (ev_move rfl) rfl ?_
              refine y (ev_add rfl rfl) rfl ?_
              rw [show IntKind.i64.wrap ((k:Int) + 1) = ((k+1 : Nat) : Int) by rw [wr (by omega) (by omega)]; rfl]
              refine y (ev_assign rfl) rfl ?_
              refine ynil' (kthn ?_)
              exact hL1 ((k + 1, D.play a)) (⟨Dev.play_ok hD hact.int, by rw [play_len]; exact hn1, by dsimp only; omega, by dsimp only; omega⟩) (by dsimp only; omega) _ _ (by repeat first | exact sub_nil | refine sub_cons rfl ?_ | refine sub_cons' rfl (by simp) ?_) (by repeat first | exact .refl | exact .nil | exact .z | apply Pk.s | refine Ge.e ?_ | apply Ge.pick | apply Ge.drop)
          · (try simp only [decide_eq_true_eq, beq_iff_eq, beq_eq_false_iff_ne, decide_eq_decide, decide_eq_false_iff_not, Bool.not_eq_true', Bool.not_eq_false', Bool.not_eq_true, Bool.not_eq_false, Bool.not_not, ne_eq, Option.isNone_some, Option.isSome_some, Option.isNone_none, Option.isSome_none] at h136)
            refine cexit (kthx (kthx (kbx (kthn ?_))))
            exact ksub (by repeat first | exact sub_nil | refine sub_cons rfl ?_ | refine sub_cons' rfl (by simp) ?_) (by repeat first | exact .refl | exact .nil | exact .z | apply Pk.s | refine Ge.e ?_ | apply Ge.pick | apply Ge.drop) (hJ1 ⟨k, D⟩ ⟨hI1o, by first | trivial | omega⟩)
        · (try simp only [decide_eq_true_eq, beq_iff_eq, beq_eq_false_iff_ne, decide_eq_decide, decide_eq_false_iff_not, Bool.not_eq_true', Bool.not_eq_false', Bool.not_eq_true, Bool.not_eq_false, Bool.not_not, ne_eq, Option.isNone_some, Option.isSome_some, Option.isNone_none, Option.isSome_none] at h132)
          refine yg0 rfl rfl rfl rfl ?_
          refine yg0 rfl rfl rfl rfl ?_
          refine y (ev_pick0 rfl rfl) rfl ?_
          refine ynil' (kthn (hK45 _ _ ?_))
          clear hK45
          refine ccond0 rfl ?_
          refine cexit (kthx (kthx (kbx (kthn ?_))))
          exact ksub (by repeat first | exact sub_nil | refine sub_cons rfl ?_ | refine sub_cons' rfl (by simp) ?_) (by repeat first | exact .refl | exact .nil | exact .z | apply Pk.s | refine Ge.e ?_ | apply Ge.pick | apply Ge.drop) (hJ1 ⟨k, D⟩ ⟨hI1o, by first | trivial | omega⟩)
    · skip
      first | (refine ycall (secNewI hn) rfl Try.call15 (by repeat first | exact .nil | exact .z | apply Pk.s | apply Tk.cons) rfl ?_; rintro v L' ⟨q, rfl, rfl⟩) | (refine ycall (secNewNil (by omega)) rfl Try.call15 (by repeat first | exact .nil | exact .z | apply Pk.s | apply Tk.cons) rfl ?_; rintro v L' ⟨rfl, rfl⟩)
      refine y (ev_assign rfl) rfl ?_
      refine ynil' (kthn (hK5 _ _ ?_))
      clear hK5
      refine cseq ?_; intro K50 hK50
      refine cseq ?_; intro K51 hK51
      refine creg ?_
      refine y (ev_move rfl) rfl ?_
      refine y (ev_eqlPnil rfl rfl Try.underlying24) rfl ?_
      refine y (ev_move rfl) rfl ?_
      refine yg0 rfl rfl rfl rfl ?_
      refine yg0 rfl rfl rfl rfl ?_
      refine yg0 rfl rfl rfl rfl ?_
      refine y (ev_pick1 rfl rfl) rfl ?_
      refine ynil' (kthn (hK51 _ _ ?_))
      clear hK51
      refine ccond1 rfl ?_
      refine cseq ?_; intro K52 hK52
      refine creg ?_
      refine y (ev_assign rfl) rfl ?_
      refine ynil' (kthn (hK52 _ _ ?_))
      clear hK52
      refine cret (kthr ?_)
      first
        | (exfalso; omega; done)
        | (refine kretv Try.results7 rfl (L1 := R) (by repeat first | exact .refl | exact .nil | exact .z | apply Pk.s | refine Ge.e ?_ | apply Ge.pick | apply Ge.drop) ?_
           exact ⟨_, ⟨by first | rfl | (exfalso; omega; done) | (exfalso; simp_all; done) | (simp; omega) | simp_all, rfl⟩, by first | rfl | (exfalso; omega; done) | (exfalso; simp_all; done) | (simp; omega) | simp_all⟩)
end W
end Go.Proofs
