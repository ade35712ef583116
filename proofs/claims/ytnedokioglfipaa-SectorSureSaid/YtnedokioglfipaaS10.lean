/- A part of the proof: contracts and plain lemmas, each without conditions beyond those that it names. -/
import Derived.Test.YtnedokioglfipaaS9
import Derived.Test.YtnedokioglfipaaSecF
set_option linter.unusedVariables false
set_option linter.unusedSimpArgs false
set_option linter.constructorNameAsVariable false
namespace Go.Proofs
open Go Go.Sl
namespace W
set_option linter.unusedVariables false
theorem secReadRow [Env] {R : List Seg} {q : Q3} {D : Dev} {i : Int} (hD : D.ok) (h0 : 0 ≤ i) (h1 : i < D.l.length) : Con Try.prog 30 [dp q, i64 i] [dev q D] R
    (fun v L' => ∃ a m c sg e, v = .tuple #[.slice a m c, i64 e] ∧ (D.dead = false → RdV [sg] (.slice a m c) 144 (bytesV (D.sec i))) ∧ L' = [sg, dev q D]) := by
  refine (secRead hD).via (List.Perm.refl _) ?_
  rintro v L (⟨h2, rfl, rfl⟩ | ⟨_, s, rfl, h2, rfl⟩)
  · refine ⟨[[], dev q D], ⟨_, _, _, [], _, rfl, fun hd => absurd ?_ h2, rfl⟩, by simp⟩
    unfold Dev.has
    rw [if_neg (by rw [hd]; decide), if_neg (by omega)]
  · obtain ⟨b, cap, sp, rfl, hc⟩ := sv_some h2 (by omega)
    exact ⟨_, ⟨_, _, _, _, _, rfl, fun _ => rdV_sv .z h2, rfl⟩, List.Perm.refl _⟩
theorem lawSure [Env] {R : List Seg} {n : Int} {lv mv kv : Value} {acts more : List ActM} {ks : Keeps} (hl : RdV R lv acts.length (actsV acts)) (haa : ∀ a ∈ acts, a.ok R)
    (hm : RdV R mv more.length (actsV more)) (hma : ∀ a ∈ more, a.ok R) (hkk : RdV R kv ks.length (keepsV ks)) :
    Con Try.prog 5 [i64 n, lv, mv, kv] [] R (Is (.bool true) []) := by
  refine con_enter Try.func5 Try.ntmps5 rfl rfl ?_
  refine cseq ?_; intro K1 hK1
  refine creg ?_
  refine y (ev_assign rfl) rfl ?_
  refine ynil' (kthn (hK1 _ _ ?_))
  clear hK1
  refine cseq ?_; intro K2 hK2
  refine cseq ?_; intro K3 hK3
  refine creg ?_
  refine ycall (awake) rfl Try.call14 (by repeat first | exact .nil | exact .z | apply Pk.s | apply Tk.cons) rfl ?_
  rintro v L' ⟨rfl, rfl⟩
  refine y (ev_not rfl) rfl ?_
  refine ynil' (kthn (hK3 _ _ ?_))
  clear hK3
  refine ccond rfl (fun h4 => ?_) (fun h4 => ?_)
  · (try simp only [decide_eq_true_eq, beq_iff_eq, beq_eq_false_iff_ne, decide_eq_decide, decide_eq_false_iff_not, Bool.not_eq_true', Bool.not_eq_false', Bool.not_eq_true, Bool.not_eq_false, Bool.not_not, ne_eq, Option.isNone_some, Option.isSome_some, Option.isNone_none, Option.isSome_none] at h4)
    refine cseq ?_; intro K4 hK4
    refine creg ?_
    refine y (ev_assign rfl) rfl ?_
    refine ynil' (kthn (hK4 _ _ ?_))
    clear hK4
    refine cret (kthr ?_)
    first
      | (exfalso; omega; done)
      | (refine kretv Try.results5 rfl (L1 := R) (by repeat first | exact .refl | exact .nil | exact .z | apply Pk.s | refine Ge.e ?_ | apply Ge.pick | apply Ge.drop) ?_
         exact ⟨_, ⟨by first | rfl | (exfalso; omega; done) | (exfalso; rcases hsbz with e | e <;> simp_all; done) | (exfalso; simp_all; done) | (simp; omega) | simp_all, rfl⟩, by first | rfl | (exfalso; omega; done) | (exfalso; rcases hsbz with e | e <;> simp_all; done) | (exfalso; simp_all; done) | (simp; omega) | simp_all⟩)
  · (try simp only [decide_eq_true_eq, beq_iff_eq, beq_eq_false_iff_ne, decide_eq_decide, decide_eq_false_iff_not, Bool.not_eq_true', Bool.not_eq_false', Bool.not_eq_true, Bool.not_eq_false, Bool.not_not, ne_eq, Option.isNone_some, Option.isSome_some, Option.isNone_none, Option.isSome_none] at h4)
    refine cskip' (kthn (hK2 _ _ ?_))
    clear hK2
    refine cseq ?_; intro K5 hK5
    refine creg ?_
    refine y (ev_move rfl) rfl ?_
    by_cases hn : 0 ≤ n ∧ n ≤ 512
    · skip
      first | (refine ycall (secNewI hn) rfl Try.call15 (by repeat first | exact .nil | exact .z | apply Pk.s | apply Tk.cons) rfl ?_; rintro v L' ⟨q, rfl, rfl⟩) | (refine ycall (secNewNil (by omega)) rfl Try.call15 (by repeat first | exact .nil | exact .z | apply Pk.s | apply Tk.cons) rfl ?_; rintro v L' ⟨rfl, rfl⟩)
      refine y (ev_assign rfl) rfl ?_
      refine ynil' (kthn (hK5 _ _ ?_))
      clear hK5
      refine cseq ?_; intro K6 hK6
      refine cseq ?_; intro K7 hK7
      refine creg ?_
      refine y (ev_move rfl) rfl ?_
      refine y (ev_eqlPnil rfl rfl Try.underlying24) rfl ?_
      refine y (ev_move rfl) rfl ?_
      refine yg1 rfl rfl ?_
      refine y (ev_move rfl) rfl ?_
      refine yg1 rfl rfl ?_
      first
        | refine y (ev_len rfl Try.underlying28) rfl ?_
        | refine y (ev_lenSv rfl Try.underlying28 (by assumption)) rfl ?_
        | refine y (ev_lenV rfl Try.underlying28 (RdV.lenVal (by assumption))) rfl ?_
        | refine y (ev_lenV rfl Try.underlying28 (RdB.lenVal (by assumption))) rfl ?_
      refine yg1 rfl rfl ?_
      refine y (ev_gtr rfl rfl) rfl ?_
      refine y (ev_pick0 rfl rfl) rfl ?_
      refine ynil' (kthn (hK7 _ _ ?_))
      clear hK7
      refine ccond rfl (fun h16 => ?_) (fun h16 => ?_)
      · (try simp only [decide_eq_true_eq, beq_iff_eq, beq_eq_false_iff_ne, decide_eq_decide, decide_eq_false_iff_not, Bool.not_eq_true', Bool.not_eq_false', Bool.not_eq_true, Bool.not_eq_false, Bool.not_not, ne_eq, Option.isNone_some, Option.isSome_some, Option.isNone_none, Option.isSome_none] at h16)
        refine cseq ?_; intro K8 hK8
        refine creg ?_
        refine y (ev_assign rfl) rfl ?_
        refine ynil' (kthn (hK8 _ _ ?_))
        clear hK8
        refine cret (kthr ?_)
        first
          | (exfalso; omega; done)
          | (refine kretv Try.results5 rfl (L1 := R) (by repeat first | exact .refl | exact .nil | exact .z | apply Pk.s | refine Ge.e ?_ | apply Ge.pick | apply Ge.drop) ?_
             exact ⟨_, ⟨by first | rfl | (exfalso; omega; done) | (exfalso; rcases hsbz with e | e <;> simp_all; done) | (exfalso; simp_all; done) | (simp; omega) | simp_all, rfl⟩, by first | rfl | (exfalso; omega; done) | (exfalso; rcases hsbz with e | e <;> simp_all; done) | (exfalso; simp_all; done) | (simp; omega) | simp_all⟩)
      · (try simp only [decide_eq_true_eq, beq_iff_eq, beq_eq_false_iff_ne, decide_eq_decide, decide_eq_false_iff_not, Bool.not_eq_true', Bool.not_eq_false', Bool.not_eq_true, Bool.not_eq_false, Bool.not_not, ne_eq, Option.isNone_some, Option.isSome_some, Option.isNone_none, Option.isSome_none] at h16)
        refine cskip' (kthn (hK6 _ _ ?_))
        clear hK6
        refine cseq ?_; intro K9 hK9
        refine cseq ?_; intro K10 hK10
        refine creg ?_
        refine y (ev_assign rfl) rfl ?_
        refine ynil' (kthn (hK10 _ _ ?_))
        clear hK10
        have hJ1 : ∀ x : Nat × Dev, ((x.2.ok ∧ x.2.l.length = n.toNat ∧ x.1 ≤ acts.length ∧ x.1 ≤ 80) ∧ (True)) → Sk 219 K9 ([(10, i64 x.1), (9, dp q), (1, lv), (0, i64 n), (2, mv), (3, kv)]) ([dev q x.2] ++ R) := by
          rintro ⟨k, D⟩ ⟨hI1, hX1⟩
          refine hK9 _ _ ?_
          obtain ⟨hD, hn1, hk1, hk2⟩ := hI1; dsimp only at hD hn1 hk1 hk2 ⊢
          refine cseq ?_; intro K11 hK11
          refine cseq ?_; intro K12 hK12
          refine creg ?_
          refine y (ev_move rfl) rfl ?_
          refine ycall (secBarrier ?ok20) rfl Try.call17 (by repeat first | exact .nil | exact .z | apply Pk.s | apply Tk.cons) rfl ?_
          case ok20 => exact hD
          rintro v L' ⟨rfl, rfl⟩
          have hD1 := Dev.barrier_ok hD
          have hb1 := barrier_fail (D := D)
          have hb0 := barrier_live (D := D)
          have hl1 : D.barrier.2.l.length = n.toNat := barrier_l.trans hn1
          generalize hDD : D.barrier = DD at hD1 hb1 hb0 hl1 ⊢
          refine y (ev_neq rfl rfl) rfl ?_
          refine ynil' (kthn (hK12 _ _ ?_))
          clear hK12
          refine ccond rfl (fun h22 => ?_) (fun h22 => ?_)
          · (try simp only [decide_eq_true_eq, beq_iff_eq, beq_eq_false_iff_ne, decide_eq_decide, decide_eq_false_iff_not, Bool.not_eq_true', Bool.not_eq_false', Bool.not_eq_true, Bool.not_eq_false, Bool.not_not, ne_eq, Option.isNone_some, Option.isSome_some, Option.isNone_none, Option.isSome_none] at h22)
            have hdead := hb1 h22
            refine cseq ?_; intro K13 hK13
            refine creg ?_
            refine y (ev_move rfl) rfl ?_
            refine ycall (secDead) rfl Try.call19 (by repeat first | exact .nil | exact .z | apply Pk.s | apply Tk.cons) rfl ?_
            rintro v L' ⟨rfl, rfl⟩
            refine y (ev_assign rfl) rfl ?_
            refine ynil' (kthn (hK13 _ _ ?_))
            clear hK13
            refine cret (kthr ?_)
            first
              | (exfalso; omega; done)
              | (refine kretv Try.results5 rfl (L1 := R) (by repeat first | exact .refl | exact .nil | exact .z | apply Pk.s | refine Ge.e ?_ | apply Ge.pick | apply Ge.drop) ?_
                 exact ⟨_, ⟨by first | rfl | (exfalso; omega; done) | (exfalso; rcases hsbz with e | e <;> simp_all; done) | (exfalso; simp_all; done) | (simp; omega) | simp_all, rfl⟩, by first | rfl | (exfalso; omega; done) | (exfalso; rcases hsbz with e | e <;> simp_all; done) | (exfalso; simp_all; done) | (simp; omega) | simp_all⟩)
          · (try simp only [decide_eq_true_eq, beq_iff_eq, beq_eq_false_iff_ne, decide_eq_decide, decide_eq_false_iff_not, Bool.not_eq_true', Bool.not_eq_false', Bool.not_eq_true, Bool.not_eq_false, Bool.not_not, ne_eq, Option.isNone_some, Option.isSome_some, Option.isNone_none, Option.isSome_none] at h22)
            obtain ⟨hlive, hes⟩ := hb0 h22
            generalize DD.2 = D1 at hD1 hl1 hlive hes ⊢
            refine cskip' (kthn (hK11 _ _ ?_))
            clear hK11
            refine cseq ?_; intro K14 hK14
            refine creg ?_
            refine ya (ac_bslice0 Try.underlying53 Try.sizeOf27) rfl ?_
            rintro v L' ⟨b65, rfl, rfl⟩
            refine y (ev_assign rfl) rfl ?_
            refine ynil' (kthn (hK14 _ _ ?_))
            clear hK14
            refine cseq ?_; intro K15 hK15
            refine cseq ?_; intro K16 hK16
            refine creg ?_
            refine y (ev_assign rfl) rfl ?_
            refine ynil' (kthn (hK16 _ _ ?_))
            clear hK16
            have hJ2 : ∀ x : Nat × Sv × List Value × Seg, ((svOk x.2.1 x.1 1 x.2.2.1 ∧ RowsOk x.2.2.2 x.2.2.1 True (fun j => D1.sec j) ∧ x.1 ≤ n.toNat) ∧ (x.1 = n.toNat)) → Sk 219 K15 ([(12, i64 x.1), (11, svVal x.2.1 x.1), (9, dp q), (0, i64 n), (2, mv), (3, kv)]) ([dev q D1, svSeg x.2.1 27 x.2.2.1, x.2.2.2] ++ R) := by
              rintro ⟨k, sW, vsW, sgW⟩ ⟨hI2, hX2⟩
              refine hK15 _ _ ?_
              obtain ⟨okW, hrW, hkW⟩ := hI2; dsimp only at okW hrW hkW ⊢
              dsimp only at hX2; subst hX2
              refine cseq ?_; intro K17 hK17
              refine cseq ?_; intro K18 hK18
              refine creg ?_
              refine y (ev_assign rfl) rfl ?_
              refine ynil' (kthn (hK18 _ _ ?_))
              clear hK18
              have hJ3 : ∀ x : Nat × Dev, ((x.2.ok ∧ x.2.l = D1.l ∧ x.1 ≤ more.length ∧ x.1 ≤ 80) ∧ (True)) → Sk 219 K17 ([(15, i64 x.1), (11, svVal sW n.toNat), (9, dp q), (0, i64 n), (2, mv), (3, kv)]) ([dev q x.2, svSeg sW 27 vsW, sgW] ++ R) := by
                rintro ⟨k, D2⟩ ⟨hI3, hX3⟩
                refine hK17 _ _ ?_
                obtain ⟨hD2, hl2, hk1, hk2⟩ := hI3; dsimp only at hD2 hl2 hk1 hk2 ⊢
                refine cseq ?_; intro K19 hK19
                refine creg ?_
                refine ya (ac_bslice0 Try.underlying53 Try.sizeOf27) rfl ?_
                rintro v L' ⟨b108, rfl, rfl⟩
                refine y (ev_assign rfl) rfl ?_
                refine ynil' (kthn (hK19 _ _ ?_))
                clear hK19
                refine cseq ?_; intro K20 hK20
                refine creg ?_
                refine y (ev_move rfl) rfl ?_
                refine ycall (secDead) rfl Try.call19 (by repeat first | exact .nil | exact .z | apply Pk.s | apply Tk.cons) rfl ?_
                rintro v L' ⟨rfl, rfl⟩
                refine y (ev_assign rfl) rfl ?_
                refine ynil' (kthn (hK20 _ _ ?_))
                clear hK20
                refine cseq ?_; intro K21 hK21
                refine cseq ?_; intro K22 hK22
                refine creg ?_
                refine y (ev_assign rfl) rfl ?_
                refine ynil' (kthn (hK22 _ _ ?_))
                clear hK22
                have hJ4 : ∀ x : Nat × Sv × List Value × Seg, ((svOk x.2.1 x.1 1 x.2.2.1 ∧ RowsOk x.2.2.2 x.2.2.1 (D2.dead = false) (fun j => D2.sec j) ∧ x.1 ≤ n.toNat) ∧ (x.1 = n.toNat)) → Sk 219 K21 ([(18, i64 x.1), (16, svVal x.2.1 x.1), (17, .bool D2.dead), (11, svVal sW n.toNat), (9, dp q), (0, i64 n), (3, kv)]) ([dev q D2, svSeg x.2.1 27 x.2.2.1, x.2.2.2, svSeg sW 27 vsW, sgW] ++ R) := by
                  rintro ⟨k, sN, vsN, sgN⟩ ⟨hI4, hX4⟩
                  refine hK21 _ _ ?_
                  obtain ⟨okN, hrN, hkN⟩ := hI4; dsimp only at okN hrN hkN ⊢
                  dsimp only at hX4; subst hX4; have hle2 := es_le hD2
                  refine cseq ?_; intro K23 hK23
                  refine creg ?_
                  refine ya (ac_makeMap) rfl ?_
                  rintro v L' ⟨b126, rfl, rfl⟩
                  refine y (ev_assign rfl) rfl ?_
                  refine ynil' (kthn (hK23 _ _ ?_))
                  clear hK23
                  refine cseq ?_; intro K24 hK24
                  refine cseq ?_; intro K25 hK25
                  refine creg ?_
                  refine y (ev_move rfl) rfl ?_
                  refine ycall (secPending ?ok39) rfl Try.call33 (by repeat first | exact .nil | exact .z | apply Pk.s | apply Tk.cons) rfl ?_
                  case ok39 => exact hD2
                  rintro v L' ⟨s128, rfl, ok128, rfl⟩
                  first
                    | refine y (ev_len rfl Try.underlying42) rfl ?_
                    | refine y (ev_lenSv rfl Try.underlying42 (by assumption)) rfl ?_
                    | refine y (ev_lenV rfl Try.underlying42 (RdV.lenVal (by assumption))) rfl ?_
                    | refine y (ev_lenV rfl Try.underlying42 (RdB.lenVal (by assumption))) rfl ?_
                  refine y (ev_move rfl) rfl ?_
                  refine ynil' (kthn (hK25 _ _ ?_))
                  clear hK25
                  have hJ5 : ∀ x : Nat × Kv × Nat, ((PendOk (D2.pending.take x.1) x.2.1 ∧ x.1 ≤ D2.es.length) ∧ (x.1 = D2.es.length)) → Sk 219 K24 ([(130, i64 x.1), (129, i64 D2.es.length), (128, svVal s128 D2.es.length), (21, .map (some b126)), (16, svVal sN n.toNat), (17, .bool D2.dead), (11, svVal sW n.toNat), (9, dp q), (0, i64 n), (3, kv)]) ([svSeg s128 3 (intsV D2.pending), so b126 (.map (ents x.2.1) x.2.2), dev q D2, svSeg sN 27 vsN, sgN, svSeg sW 27 vsW, sgW] ++ R) := by
                    rintro ⟨k, kvp, cp⟩ ⟨hI5, hX5⟩
                    refine hK24 _ _ ?_
                    obtain ⟨hpk, hkp⟩ := hI5; dsimp only at hpk hkp ⊢
                    have hp128 : RdV [svSeg s128 3 (intsV D2.pending)] (svVal s128 D2.es.length) D2.es.length (intsV D2.pending) := rdV_sv .z ok128
                    have hnd : D2.pending.Nodup := (List.mergeSort_perm _ _).nodup_iff.2 hD2.uniq
                    dsimp only at hX5; subst hX5; rw [List.take_of_length_le (by rw [pending_length]; exact Nat.le_refl _)] at hpk
                    refine cseq ?_; intro K26 hK26
                    refine creg ?_
                    refine y (ev_move rfl) rfl ?_
                    refine y (ev_move rfl) rfl ?_
                    refine ycall (secCrash (ks := ks) ?ok44 ?ks44) rfl Try.call25 (by repeat first | exact .nil | exact .z | apply Pk.s | apply Tk.cons) rfl ?_
                    case ok44 => exact hD2
                    case ks44 => exact hkk.mono (by repeat first | exact .refl | exact .nil | exact .z | apply Pk.s | refine Ge.e ?_ | apply Ge.pick | apply Ge.drop)
                    rintro v L' ⟨rfl, rfl⟩
                    have hU3 := crash_up hD2 ks
                    rw [show D2.l.length = n.toNat by rw [hl2]; exact hl1] at hU3
                    have hso : ∀ i : Int, 0 ≤ i → i ∉ D2.pending → (D2.crash ks).sec i = D1.sec i := fun i h0 hp => by rw [sec_crash_other hD2 h0 hp, sec_of_l hes, hl2]
                    have hsb : ∀ (i : Int) (z : Nat), 0 ≤ i → i < n.toNat → z < 144 → ((D2.crash ks).sec i)[z]? = (D2.sec i)[z]? ∨ ((D2.crash ks).sec i)[z]? = (D1.sec i)[z]? := fun i z h0 h1 h2 => by
                      have := sec_crash_byte hD2 (ks := ks) h0 (by rw [hl2]; omega) h2
                      rw [hl2, ← sec_of_l hes] at this
                      exact this
                    have hes3 : (D2.crash ks).es = [] := rfl
                    generalize D2.crash ks = D3 at hU3 hso hsb hes3 ⊢
                    have hlive3 := hU3.live
                    refine ynil' (kthn (hK26 _ _ ?_))
                    clear hK26
                    refine cseq ?_; intro K27 hK27
                    refine cseq ?_; intro K28 hK28
                    refine creg ?_
                    refine y (ev_assign rfl) rfl ?_
                    refine ynil' (kthn (hK28 _ _ ?_))
                    clear hK28
                    have hJ6 : ∀ x : Nat, ((x ≤ n.toNat) ∧ (True)) → Sk 219 K27 ([(24, i64 x), (21, .map (some b126)), (16, svVal sN n.toNat), (17, .bool D2.dead), (11, svVal sW n.toNat), (9, dp q), (0, i64 n)]) ([dev q D3, so b126 (.map (ents kvp) cp), svSeg sN 27 vsN, sgN, svSeg sW 27 vsW, sgW] ++ R) := by
                      rintro k ⟨hI6, hX6⟩
                      refine hK27 _ _ ?_
                      have hk6 := hI6
                      refine cseq ?_; intro K29 hK29
                      refine creg ?_
                      refine y (ev_move rfl) rfl ?_
                      refine ycall (secPending ?ok47) rfl Try.call33 (by repeat first | exact .nil | exact .z | apply Pk.s | apply Tk.cons) rfl ?_
                      case ok47 => exact hU3.ok
                      rintro v L' ⟨s211, rfl, ok211, rfl⟩
                      first
                        | refine y (ev_len rfl Try.underlying42) rfl ?_
                        | refine y (ev_lenSv rfl Try.underlying42 (by assumption)) rfl ?_
                        | refine y (ev_lenV rfl Try.underlying42 (RdV.lenVal (by assumption))) rfl ?_
                        | refine y (ev_lenV rfl Try.underlying42 (RdB.lenVal (by assumption))) rfl ?_
                      refine y (ev_eql rfl rfl) rfl ?_
                      refine y (ev_move rfl) rfl ?_
                      refine ysplit 214 rfl (fun h51 => ?_) (fun h51 => ?_)
                      · (try simp only [decide_eq_true_eq, beq_iff_eq, beq_eq_false_iff_ne, decide_eq_decide, decide_eq_false_iff_not, Bool.not_eq_true', Bool.not_eq_false', Bool.not_eq_true, Bool.not_eq_false, Bool.not_not, ne_eq, Option.isNone_some, Option.isSome_some, Option.isNone_none, Option.isSome_none] at h51)
                        refine yg1 rfl rfl ?_
                        refine y (ev_move rfl) rfl ?_
                        refine yg1 rfl rfl ?_
                        refine ycall (secDead) rfl Try.call19 (by repeat first | exact .nil | exact .z | apply Pk.s | apply Tk.cons) rfl ?_
                        rintro v L' ⟨rfl, rfl⟩
                        refine yg1 rfl rfl ?_
                        refine y (ev_not rfl) rfl ?_
                        refine y (ev_pick1 rfl rfl) rfl ?_
                        refine y (ev_assign rfl) rfl ?_
                        refine ynil' (kthn (hK29 _ _ ?_))
                        clear hK29
                        refine cret ?_
                        first
                          | (exfalso; omega; done)
                          | (refine kretv Try.results5 rfl (L1 := R) (by repeat first | exact .refl | exact .nil | exact .z | apply Pk.s | refine Ge.e ?_ | apply Ge.pick | apply Ge.drop) ?_
                             exact ⟨_, ⟨by first | rfl | (exfalso; omega; done) | (exfalso; rcases hsbz with e | e <;> simp_all; done) | (exfalso; simp_all; done) | (simp; omega) | simp_all, rfl⟩, by first | rfl | (exfalso; omega; done) | (exfalso; rcases hsbz with e | e <;> simp_all; done) | (exfalso; simp_all; done) | (simp; omega) | simp_all⟩)
                      · (try simp only [decide_eq_true_eq, beq_iff_eq, beq_eq_false_iff_ne, decide_eq_decide, decide_eq_false_iff_not, Bool.not_eq_true', Bool.not_eq_false', Bool.not_eq_true, Bool.not_eq_false, Bool.not_not, ne_eq, Option.isNone_some, Option.isSome_some, Option.isNone_none, Option.isSome_none] at h51)
                        refine yg0 rfl rfl rfl rfl ?_
                        refine yg0 rfl rfl rfl rfl ?_
                        refine yg0 rfl rfl rfl rfl ?_
                        refine y (ev_pick0 rfl rfl) rfl ?_
                        refine y (ev_assign rfl) rfl ?_
                        refine ynil' (kthn (hK29 _ _ ?_))
                        clear hK29
                        refine cret ?_
                        first
                          | (exfalso; omega; done)
                          | (refine kretv Try.results5 rfl (L1 := R) (by repeat first | exact .refl | exact .nil | exact .z | apply Pk.s | refine Ge.e ?_ | apply Ge.pick | apply Ge.drop) ?_
                             exact ⟨_, ⟨by first | rfl | (exfalso; omega; done) | (exfalso; rcases hsbz with e | e <;> simp_all; done) | (exfalso; simp_all; done) | (simp; omega) | simp_all, rfl⟩, by first | rfl | (exfalso; omega; done) | (exfalso; rcases hsbz with e | e <;> simp_all; done) | (exfalso; simp_all; done) | (simp; omega) | simp_all⟩)
                    clear hK27
                    refine cblock ?_
                    refine cloop (A := Nat) (fun x => [(24, i64 x), (21, .map (some b126)), (16, svVal sN n.toNat), (17, .bool D2.dead), (11, svVal sW n.toNat), (9, dp q), (0, i64 n)]) (fun x => [dev q D3, so b126 (.map (ents kvp) cp), svSeg sN 27 vsN, sgN, svSeg sW 27 vsW, sgW] ++ R) (fun x => x ≤ n.toNat) (fun x => n.toNat - x) (0) ?_ (by repeat first | exact sub_nil | refine sub_cons rfl ?_ | refine sub_cons' rfl (by simp) ?_) (by repeat first | exact .refl | exact .nil | exact .z | apply Pk.s | refine Ge.e ?_ | apply Ge.pick | apply Ge.drop) ?_
                    · exact Nat.zero_le _
                    rintro k hI6 KL6 hL6
                    have hI6o := hI6
                    have hk6 := hI6
                    refine cseq ?_; intro K30 hK30
                    refine cseq ?_; intro K31 hK31
                    refine creg ?_
                    refine y (ev_move rfl) rfl ?_
                    refine y (ev_move rfl) rfl ?_
                    refine y (ev_lss rfl rfl) rfl ?_
                    refine ynil' (kthn (hK31 _ _ ?_))
                    clear hK31
                    refine ccond rfl (fun h62 => ?_) (fun h62 => ?_)
                    · (try simp only [decide_eq_true_eq, beq_iff_eq, beq_eq_false_iff_ne, decide_eq_decide, decide_eq_false_iff_not, Bool.not_eq_true', Bool.not_eq_false', Bool.not_eq_true, Bool.not_eq_false, Bool.not_not, ne_eq, Option.isNone_some, Option.isSome_some, Option.isNone_none, Option.isSome_none] at h62)
                      have hpW : RdV [svSeg sW 27 vsW] (svVal sW n.toNat) n.toNat vsW := rdV_sv .z okW
                      have hpN : RdV [svSeg sN 27 vsN] (svVal sN n.toNat) n.toNat vsN := rdV_sv .z okN
                      obtain ⟨vW, hvW⟩ : ∃ v, vsW[k]? = some v := ⟨_, List.getElem?_eq_getElem (by have := okW.len; omega)⟩
                      obtain ⟨vN, hvN⟩ : ∃ v, vsN[k]? = some v := ⟨_, List.getElem?_eq_getElem (by have := okN.len; omega)⟩
                      have hrowW := (hrW k vW hvW).2 trivial
                      have hrowN := (hrN k vN hvN).2
                      have hbW : RdB [sgW] vW (D1.sec k) := RdV.bytes (by rw [sec_length hD1]; exact hrowW)
                      have hsok := hso k (by omega)
                      refine cskip' (kthn (hK30 _ _ ?_))
                      clear hK30
                      refine cseq ?_; intro K32 hK32
                      refine cblock ?_
                      refine cseq ?_; intro K33 hK33
                      refine creg ?_
                      refine y (ev_move rfl) rfl ?_
                      refine y (ev_move rfl) rfl ?_
                      refine ycall (secReadOk hU3.ok (by rw [hU3.has]; exact if_neg (by omega))) rfl Try.call30 (by repeat first | exact .nil | exact .z | apply Pk.s | apply Tk.cons) rfl ?_
                      rintro v L' ⟨b148, cap148, sp148, rfl, hc148, rfl⟩
                      refine y (ev_move rfl) rfl ?_
                      refine y (ev_extract rfl rfl) rfl ?_
                      refine y (ev_extract rfl rfl) rfl ?_
                      refine y (ev_assign rfl) rfl ?_
                      refine y (ev_assign rfl) rfl ?_
                      refine ynil' (kthn (hK33 _ _ ?_))
                      clear hK33
                      refine cseq ?_; intro K34 hK34
                      refine cseq ?_; intro K35 hK35
                      refine cdraw 22 [(0, true), (1, true), (2, true), (3, true), (4, true), (5, true), (6, true), (7, true), (8, true), (9, true), (10, true), (11, true), (12, true), (13, true), (14, true), (15, true), (16, true), (17, true), (18, true), (19, true), (20, true), (21, true)] (_) Try.mixed (by kernel_rfl) .refl ?_
                      refine hr rfl (ev_move rfl) rfl ?_
                      refine hr rfl (ev_neq rfl rfl) rfl ?_
                      refine hr rfl (ev_move rfl) rfl ?_
                      refine hsplit 153 rfl (fun h74 => ?_) (fun h74 => ?_)
                      · (try simp only [decide_eq_true_eq, beq_iff_eq, beq_eq_false_iff_ne, decide_eq_decide, decide_eq_false_iff_not, Bool.not_eq_true', Bool.not_eq_false', Bool.not_eq_true, Bool.not_eq_false, Bool.not_not, ne_eq, Option.isNone_some, Option.isSome_some, Option.isNone_none, Option.isSome_none] at h74)
                        refine hr0 rfl rfl rfl rfl rfl ?_
                        refine hr0 rfl rfl rfl rfl rfl ?_
                        refine hr0 rfl rfl rfl rfl rfl ?_
                        refine hr rfl (ev_pick1 rfl rfl) rfl ?_
                        refine hr rfl (ev_move rfl) rfl ?_
                        refine hr0 rfl rfl rfl rfl rfl ?_
                        refine hr0 rfl rfl rfl rfl rfl ?_
                        by_cases hp : (k : Int) ∈ D2.pending
                        · skip
                          refine hr0 rfl rfl rfl rfl rfl ?_
                          refine hr0 rfl rfl rfl rfl rfl ?_
                          refine hr0 rfl rfl rfl rfl rfl ?_
                          refine hr0u rfl rfl rfl rfl ?_
                          refine hr0u rfl rfl rfl rfl ?_
                          refine hr0u rfl rfl rfl rfl ?_
                          refine hr0u rfl rfl rfl rfl ?_
                          refine hr0u rfl rfl rfl rfl ?_
                          refine hr0u rfl rfl rfl rfl ?_
                          refine hr0u rfl rfl rfl rfl ?_
                          refine hr0u rfl rfl rfl rfl ?_
                          refine hr0 rfl rfl rfl rfl rfl ?_
                          refine hnil ?_
                          refine y (ev_pick1 rfl rfl) rfl ?_
                          refine hnoP' (kthn (hK35 _ _ ?_))
                          clear hK35
                          refine ccond1 rfl ?_
                          refine cseq ?_; intro K36 hK36
                          refine creg ?_
                          refine y (ev_assign rfl) rfl ?_
                          refine ynil' (kthn (hK36 _ _ ?_))
                          clear hK36
                          refine cret (kthr (kbr (kthr (kthr (kbr (kthr ?_))))))
                          first
                            | (exfalso; omega; done)
                            | (refine kretv Try.results5 rfl (L1 := R) (by repeat first | exact .refl | exact .nil | exact .z | apply Pk.s | refine Ge.e ?_ | apply Ge.pick | apply Ge.drop) ?_
                               exact ⟨_, ⟨by first | rfl | (exfalso; omega; done) | (exfalso; rcases hsbz with e | e <;> simp_all; done) | (exfalso; simp_all; done) | (simp; omega) | simp_all, rfl⟩, by first | rfl | (exfalso; omega; done) | (exfalso; rcases hsbz with e | e <;> simp_all; done) | (exfalso; simp_all; done) | (simp; omega) | simp_all⟩)
                        · skip
                          refine hr0 rfl rfl rfl rfl rfl ?_
                          refine hr0 rfl rfl rfl rfl rfl ?_
                          refine hr0 rfl rfl rfl rfl rfl ?_
                          refine hr0u rfl rfl rfl rfl ?_
                          refine hr0u rfl rfl rfl rfl ?_
                          refine hr0u rfl rfl rfl rfl ?_
                          refine hr0u rfl rfl rfl rfl ?_
                          refine hr0u rfl rfl rfl rfl ?_
                          refine hr0u rfl rfl rfl rfl ?_
                          refine hr0u rfl rfl rfl rfl ?_
                          refine hr0u rfl rfl rfl rfl ?_
                          refine hr0 rfl rfl rfl rfl rfl ?_
                          refine hnil ?_
                          refine y (ev_pick1 rfl rfl) rfl ?_
                          refine hnoP' (kthn (hK35 _ _ ?_))
                          clear hK35
                          refine ccond1 rfl ?_
                          refine cseq ?_; intro K37 hK37
                          refine creg ?_
                          refine y (ev_assign rfl) rfl ?_
                          refine ynil' (kthn (hK37 _ _ ?_))
                          clear hK37
                          refine cret (kthr (kbr (kthr (kthr (kbr (kthr ?_))))))
                          first
                            | (exfalso; omega; done)
                            | (refine kretv Try.results5 rfl (L1 := R) (by repeat first | exact .refl | exact .nil | exact .z | apply Pk.s | refine Ge.e ?_ | apply Ge.pick | apply Ge.drop) ?_
                               exact ⟨_, ⟨by first | rfl | (exfalso; omega; done) | (exfalso; rcases hsbz with e | e <;> simp_all; done) | (exfalso; simp_all; done) | (simp; omega) | simp_all, rfl⟩, by first | rfl | (exfalso; omega; done) | (exfalso; rcases hsbz with e | e <;> simp_all; done) | (exfalso; simp_all; done) | (simp; omega) | simp_all⟩)
                      · (try simp only [decide_eq_true_eq, beq_iff_eq, beq_eq_false_iff_ne, decide_eq_decide, decide_eq_false_iff_not, Bool.not_eq_true', Bool.not_eq_false', Bool.not_eq_true, Bool.not_eq_false, Bool.not_not, ne_eq, Option.isNone_some, Option.isSome_some, Option.isNone_none, Option.isSome_none] at h74)
                        refine hr1 rfl rfl rfl (ev_move rfl) rfl ?_
                        first
                          | refine hr1 rfl rfl rfl (ev_len rfl Try.underlying27) rfl ?_
                          | refine hr1 rfl rfl rfl (ev_lenSv rfl Try.underlying27 (by assumption)) rfl ?_
                          | refine hr1 rfl rfl rfl (ev_lenV rfl Try.underlying27 (RdV.lenVal (by assumption))) rfl ?_
                          | refine hr1 rfl rfl rfl (ev_lenV rfl Try.underlying27 (RdB.lenVal (by assumption))) rfl ?_
                        refine hr1 rfl rfl rfl (ev_neq rfl rfl) rfl ?_
                        refine hr rfl (ev_pick0 rfl rfl) rfl ?_
                        refine hr rfl (ev_move rfl) rfl ?_
                        refine hsplit 158 rfl (fun h86 => ?_) (fun h86 => ?_)
                        · (try simp only [decide_eq_true_eq, beq_iff_eq, beq_eq_false_iff_ne, decide_eq_decide, decide_eq_false_iff_not, Bool.not_eq_true', Bool.not_eq_false', Bool.not_eq_true, Bool.not_eq_false, Bool.not_not, ne_eq, Option.isNone_some, Option.isSome_some, Option.isNone_none, Option.isSome_none] at h86)
                          refine hr0 rfl rfl rfl rfl rfl ?_
                          refine hr0 rfl rfl rfl rfl rfl ?_
                          by_cases hp : (k : Int) ∈ D2.pending
                          · skip
                            refine hr0 rfl rfl rfl rfl rfl ?_
                            refine hr0 rfl rfl rfl rfl rfl ?_
                            refine hr0 rfl rfl rfl rfl rfl ?_
                            refine hr0u rfl rfl rfl rfl ?_
                            refine hr0u rfl rfl rfl rfl ?_
                            refine hr0u rfl rfl rfl rfl ?_
                            refine hr0u rfl rfl rfl rfl ?_
                            refine hr0u rfl rfl rfl rfl ?_
                            refine hr0u rfl rfl rfl rfl ?_
                            refine hr0u rfl rfl rfl rfl ?_
                            refine hr0u rfl rfl rfl rfl ?_
                            refine hr0 rfl rfl rfl rfl rfl ?_
                            refine hnil ?_
                            refine y (ev_pick1 rfl rfl) rfl ?_
                            refine hnoP' (kthn (hK35 _ _ ?_))
                            clear hK35
                            refine ccond1 rfl ?_
                            refine cseq ?_; intro K38 hK38
                            refine creg ?_
                            refine y (ev_assign rfl) rfl ?_
                            refine ynil' (kthn (hK38 _ _ ?_))
                            clear hK38
                            refine cret (kthr (kbr (kthr (kthr (kbr (kthr ?_))))))
                            first
                              | (exfalso; omega; done)
                              | (refine kretv Try.results5 rfl (L1 := R) (by repeat first | exact .refl | exact .nil | exact .z | apply Pk.s | refine Ge.e ?_ | apply Ge.pick | apply Ge.drop) ?_
                                 exact ⟨_, ⟨by first | rfl | (exfalso; omega; done) | (exfalso; rcases hsbz with e | e <;> simp_all; done) | (exfalso; simp_all; done) | (simp; omega) | simp_all, rfl⟩, by first | rfl | (exfalso; omega; done) | (exfalso; rcases hsbz with e | e <;> simp_all; done) | (exfalso; simp_all; done) | (simp; omega) | simp_all⟩)
                          · skip
                            refine hr0 rfl rfl rfl rfl rfl ?_
                            refine hr0 rfl rfl rfl rfl rfl ?_
                            refine hr0 rfl rfl rfl rfl rfl ?_
                            refine hr0u rfl rfl rfl rfl ?_
                            refine hr0u rfl rfl rfl rfl ?_
                            refine hr0u rfl rfl rfl rfl ?_
                            refine hr0u rfl rfl rfl rfl ?_
                            refine hr0u rfl rfl rfl rfl ?_
                            refine hr0u rfl rfl rfl rfl ?_
                            refine hr0u rfl rfl rfl rfl ?_
                            refine hr0u rfl rfl rfl rfl ?_
                            refine hr0 rfl rfl rfl rfl rfl ?_
                            refine hnil ?_
                            refine y (ev_pick1 rfl rfl) rfl ?_
                            refine hnoP' (kthn (hK35 _ _ ?_))
                            clear hK35
                            refine ccond1 rfl ?_
                            refine cseq ?_; intro K39 hK39
                            refine creg ?_
                            refine y (ev_assign rfl) rfl ?_
                            refine ynil' (kthn (hK39 _ _ ?_))
                            clear hK39
                            refine cret (kthr (kbr (kthr (kthr (kbr (kthr ?_))))))
                            first
                              | (exfalso; omega; done)
                              | (refine kretv Try.results5 rfl (L1 := R) (by repeat first | exact .refl | exact .nil | exact .z | apply Pk.s | refine Ge.e ?_ | apply Ge.pick | apply Ge.drop) ?_
                                 exact ⟨_, ⟨by first | rfl | (exfalso; omega; done) | (exfalso; rcases hsbz with e | e <;> simp_all; done) | (exfalso; simp_all; done) | (simp; omega) | simp_all, rfl⟩, by first | rfl | (exfalso; omega; done) | (exfalso; rcases hsbz with e | e <;> simp_all; done) | (exfalso; simp_all; done) | (simp; omega) | simp_all⟩)
                        · (try simp only [decide_eq_true_eq, beq_iff_eq, beq_eq_false_iff_ne, decide_eq_decide, decide_eq_false_iff_not, Bool.not_eq_true', Bool.not_eq_false', Bool.not_eq_true, Bool.not_eq_false, Bool.not_not, ne_eq, Option.isNone_some, Option.isSome_some, Option.isNone_none, Option.isSome_none] at h86)
                          refine hr1 rfl rfl rfl (ev_move rfl) rfl ?_
                          refine hr1 rfl rfl rfl (ev_move rfl) rfl ?_
                          by_cases hp : (k : Int) ∈ D2.pending
                          · skip
                            first
                              | refine hr1 rfl rfl rfl (ev_lookups (hpk.get hp) rfl rfl Try.underlying54 Try.underlying3 Try.zeroValue4 (by repeat first | exact .z | apply In.s)) rfl ?_
                              | refine hr1 rfl rfl rfl (ev_lookupn (hpk.none hp) rfl rfl Try.underlying54 Try.underlying3 Try.zeroValue4 (by repeat first | exact .z | apply In.s)) rfl ?_
                            refine hr1 rfl rfl rfl (ev_not rfl) rfl ?_
                            refine hr1 rfl rfl rfl (ev_move rfl) rfl ?_
                            refine hr0 rfl rfl rfl rfl rfl ?_
                            refine hr0 rfl rfl rfl rfl rfl ?_
                            refine hr0 rfl rfl rfl rfl rfl ?_
                            refine hr0 rfl rfl rfl rfl rfl ?_
                            refine hr0 rfl rfl rfl rfl rfl ?_
                            refine hr0 rfl rfl rfl rfl rfl ?_
                            refine hr0 rfl rfl rfl rfl rfl ?_
                            refine hr0 rfl rfl rfl rfl rfl ?_
                            refine hr1 rfl rfl rfl (ev_pick0 rfl rfl) rfl ?_
                            refine hnil ?_
                            refine y (ev_pick0 rfl rfl) rfl ?_
                            refine hnoP' (kthn (hK35 _ _ ?_))
                            clear hK35
                            refine ccond0 rfl ?_
                            refine cskip' (kthn (hK34 _ _ ?_))
                            clear hK34
                            refine cseq ?_; intro K40 hK40
                            refine creg ?_
                            refine y (ev_move rfl) rfl ?_
                            first
                              | refine y (ev_len rfl Try.underlying27) rfl ?_
                              | refine y (ev_lenSv rfl Try.underlying27 (by assumption)) rfl ?_
                              | refine y (ev_lenV rfl Try.underlying27 (RdV.lenVal (by assumption))) rfl ?_
                              | refine y (ev_lenV rfl Try.underlying27 (RdB.lenVal (by assumption))) rfl ?_
                            refine y (ev_move rfl) rfl ?_
                            refine ynil' (kthn (hK40 _ _ ?_))
                            clear hK40
                            refine cblock ?_
                            refine cloop (A := Nat) (fun x => [(176, i64 x), (175, i64 144), (25, .slice (some ⟨b148, 0, none⟩) 144 cap148), (24, i64 k), (21, .map (some b126)), (16, svVal sN n.toNat), (17, .bool D2.dead), (11, svVal sW n.toNat), (9, dp q), (0, i64 n)]) (fun x => [sc b148 (bytesV (D3.sec k) ++ sp148) 5, dev q D3, so b126 (.map (ents kvp) cp), svSeg sN 27 vsN, sgN, svSeg sW 27 vsW, sgW] ++ R) (fun x => x ≤ 144) (fun x => 144 - x) (0) ?_ (by repeat first | exact sub_nil | refine sub_cons rfl ?_ | refine sub_cons' rfl (by simp) ?_) (by repeat first | exact .refl | exact .nil | exact .z | apply Pk.s | refine Ge.e ?_ | apply Ge.pick | apply Ge.drop) ?_
                            · exact Nat.zero_le _
                            rintro z hI7 KL7 hL7
                            have hI7o := hI7
                            have hz7 := hI7
                            refine cseq ?_; intro K41 hK41
                            refine creg ?_
                            refine y (ev_lss rfl rfl) rfl ?_
                            refine ynil' (kthn (hK41 _ _ ?_))
                            clear hK41
                            refine cseq ?_; intro K42 hK42
                            refine ccond rfl (fun h102 => ?_) (fun h102 => ?_)
                            · (try simp only [decide_eq_true_eq, beq_iff_eq, beq_eq_false_iff_ne, decide_eq_decide, decide_eq_false_iff_not, Bool.not_eq_true', Bool.not_eq_false', Bool.not_eq_true, Bool.not_eq_false, Bool.not_not, ne_eq, Option.isNone_some, Option.isSome_some, Option.isNone_none, Option.isSome_none] at h102)
                              have hsbz := hsb k z (by omega) (by omega) (by omega)
                              refine cskip' (kthn (hK42 _ _ ?_))
                              clear hK42
                              refine cseq ?_; intro K43 hK43
                              refine cblock ?_
                              refine cseq ?_; intro K44 hK44
                              refine creg ?_
                              refine y (ev_move rfl) rfl ?_
                              refine y (ev_assign rfl) rfl ?_
                              refine ynil' (kthn (hK44 _ _ ?_))
                              clear hK44
                              refine cseq ?_; intro K45 hK45
                              refine cdraw 29 [(0, true), (1, true), (2, true), (3, true), (4, true), (5, true), (6, true), (7, true), (8, true), (9, true), (10, true), (11, true), (12, true), (13, true), (14, true), (15, true), (16, true), (17, true), (18, true), (19, true), (20, true), (21, true), (22, true), (23, true), (24, true), (25, true), (26, true), (27, true), (28, true)] (_) Try.mixed (by kernel_rfl) .refl ?_
                              refine hr rfl (ev_move rfl) rfl ?_
                              refine hr rfl (ev_move rfl) rfl ?_
                              first
                                | refine hr rfl (ev_ixAddr rfl rfl Try.underlying27 Try.sizeOf5 (by omega) (by omega)) rfl ?_
                                | refine hr rfl (ev_ixV (by assumption) rfl rfl Try.underlying27 Try.sizeOf5 (by omega) (by omega)) rfl ?_
                              refine hr rfl (ev_load rfl Try.isAgg5 (by repeat first | exact .z | apply In.s) (by rw [show 0 + (z : Int).toNat * 1 = z by simp]; exact bytesV_get' (by rw [sec_length hU3.ok]; omega))) rfl ?_
                              refine hr rfl (ev_move rfl) rfl ?_
                              refine hr rfl (ev_move rfl) rfl ?_
                              first
                                | refine hr rfl (ev_ixAddr rfl rfl Try.underlying53 Try.sizeOf27 (by omega) (by omega)) rfl ?_
                                | refine hr rfl (ev_ixV (by assumption) rfl rfl Try.underlying53 Try.sizeOf27 (by omega) (by omega)) rfl ?_
                              refine hr rfl (ev_loadV k hpW (by repeat first | exact .refl | exact .nil | exact .z | apply Pk.s | refine Ge.e ?_ | apply Ge.pick | apply Ge.drop) rfl Try.isAgg27 (by simp) hvW) rfl ?_
                              refine hr rfl (ev_move rfl) rfl ?_
                              first
                                | refine hr rfl (ev_ixAddr rfl rfl Try.underlying27 Try.sizeOf5 (by omega) (by omega)) rfl ?_
                                | refine hr rfl (ev_ixV (by assumption) rfl rfl Try.underlying27 Try.sizeOf5 (by omega) (by omega)) rfl ?_
                              refine hr rfl (ev_loadV z hrowW (by repeat first | exact .refl | exact .nil | exact .z | apply Pk.s | refine Ge.e ?_ | apply Ge.pick | apply Ge.drop) rfl Try.isAgg5 (by simp) (bytesV_get (by rw [sec_length hD1]; omega))) rfl ?_
                              refine hr rfl (ev_neq rfl rfl) rfl ?_
                              refine hr rfl (ev_move rfl) rfl ?_
                              refine hsplit 191 rfl (fun h118 => ?_) (fun h118 => ?_)
                              · (try simp only [decide_eq_true_eq, beq_iff_eq, beq_eq_false_iff_ne, decide_eq_decide, decide_eq_false_iff_not, Bool.not_eq_true', Bool.not_eq_false', Bool.not_eq_true, Bool.not_eq_false, Bool.not_not, ne_eq, Option.isNone_some, Option.isSome_some, Option.isNone_none, Option.isSome_none] at h118)
                                refine hr1 rfl rfl rfl (ev_move rfl) rfl ?_
                                refine hr1 rfl rfl rfl (ev_not rfl) rfl ?_
                                refine hr1 rfl rfl rfl (ev_move rfl) rfl ?_
                                refine hsplit 194 rfl (fun h122 => ?_) (fun h122 => ?_)
                                · (try simp only [decide_eq_true_eq, beq_iff_eq, beq_eq_false_iff_ne, decide_eq_decide, decide_eq_false_iff_not, Bool.not_eq_true', Bool.not_eq_false', Bool.not_eq_true, Bool.not_eq_false, Bool.not_not, ne_eq, Option.isNone_some, Option.isSome_some, Option.isNone_none, Option.isSome_none] at h122)
                                  refine hr1 rfl rfl rfl (ev_move rfl) rfl ?_
                                  have hrowN' := hrowN (by assumption)
                                  refine hr1 rfl rfl rfl (ev_move rfl) rfl ?_
                                  first
                                    | refine hr1 rfl rfl rfl (ev_ixAddr rfl rfl Try.underlying27 Try.sizeOf5 (by omega) (by omega)) rfl ?_
                                    | refine hr1 rfl rfl rfl (ev_ixV (by assumption) rfl rfl Try.underlying27 Try.sizeOf5 (by omega) (by omega)) rfl ?_
                                  refine hr1 rfl rfl rfl (ev_load rfl Try.isAgg5 (by repeat first | exact .z | apply In.s) (by rw [show 0 + (z : Int).toNat * 1 = z by simp]; exact bytesV_get' (by rw [sec_length hU3.ok]; omega))) rfl ?_
                                  refine hr1 rfl rfl rfl (ev_move rfl) rfl ?_
                                  refine hr1 rfl rfl rfl (ev_move rfl) rfl ?_
                                  first
                                    | refine hr1 rfl rfl rfl (ev_ixAddr rfl rfl Try.underlying53 Try.sizeOf27 (by omega) (by omega)) rfl ?_
                                    | refine hr1 rfl rfl rfl (ev_ixV (by assumption) rfl rfl Try.underlying53 Try.sizeOf27 (by omega) (by omega)) rfl ?_
                                  refine hr1 rfl rfl rfl (ev_loadV k hpN (by repeat first | exact .refl | exact .nil | exact .z | apply Pk.s | refine Ge.e ?_ | apply Ge.pick | apply Ge.drop) rfl Try.isAgg27 (by simp) hvN) rfl ?_
                                  refine hr1 rfl rfl rfl (ev_move rfl) rfl ?_
                                  first
                                    | refine hr1 rfl rfl rfl (ev_ixAddr rfl rfl Try.underlying27 Try.sizeOf5 (by omega) (by omega)) rfl ?_
                                    | refine hr1 rfl rfl rfl (ev_ixV (by assumption) rfl rfl Try.underlying27 Try.sizeOf5 (by omega) (by omega)) rfl ?_
                                  refine hr1 rfl rfl rfl (ev_loadV z hrowN' (by repeat first | exact .refl | exact .nil | exact .z | apply Pk.s | refine Ge.e ?_ | apply Ge.pick | apply Ge.drop) rfl Try.isAgg5 (by simp) (bytesV_get (by rw [sec_length hD2]; omega))) rfl ?_
                                  refine hr1 rfl rfl rfl (ev_neq rfl rfl) rfl ?_
                                  refine hr1 rfl rfl rfl (ev_pick1 rfl rfl) rfl ?_
                                  refine hnil ?_
                                  refine y (ev_pick1 rfl rfl) rfl ?_
                                  refine hnoP' (kthn (hK45 _ _ ?_))
                                  clear hK45
                                  refine ccond rfl (fun h137 => ?_) (fun h137 => ?_)
                                  · (try simp only [decide_eq_true_eq, beq_iff_eq, beq_eq_false_iff_ne, decide_eq_decide, decide_eq_false_iff_not, Bool.not_eq_true', Bool.not_eq_false', Bool.not_eq_true, Bool.not_eq_false, Bool.not_not, ne_eq, Option.isNone_some, Option.isSome_some, Option.isNone_none, Option.isSome_none] at h137)
                                    refine cseq ?_; intro K46 hK46
                                    refine creg ?_
                                    refine y (ev_assign rfl) rfl ?_
                                    refine ynil' (kthn (hK46 _ _ ?_))
                                    clear hK46
                                    refine cret (kbr (kthr (kthr (kbr (kbr (kthr (kthr (kbr (kthr ?_)))))))))
                                    first
                                      | (exfalso; omega; done)
                                      | (refine kretv Try.results5 rfl (L1 := R) (by repeat first | exact .refl | exact .nil | exact .z | apply Pk.s | refine Ge.e ?_ | apply Ge.pick | apply Ge.drop) ?_
                                         exact ⟨_, ⟨by first | rfl | (exfalso; omega; done) | (exfalso; rcases hsbz with e | e <;> simp_all; done) | (exfalso; simp_all; done) | (simp; omega) | simp_all, rfl⟩, by first | rfl | (exfalso; omega; done) | (exfalso; rcases hsbz with e | e <;> simp_all; done) | (exfalso; simp_all; done) | (simp; omega) | simp_all⟩)
                                  · (try simp only [decide_eq_true_eq, beq_iff_eq, beq_eq_false_iff_ne, decide_eq_decide, decide_eq_false_iff_not, Bool.not_eq_true', Bool.not_eq_false', Bool.not_eq_true, Bool.not_eq_false, Bool.not_not, ne_eq, Option.isNone_some, Option.isSome_some, Option.isNone_none, Option.isSome_none] at h137)
                                    refine cskip' (kbn (kthn (hK43 _ _ ?_)))
                                    clear hK43
                                    refine creg ?_
                                    refine y (ev_add rfl rfl) rfl ?_
                                    rw [show IntKind.i64.wrap ((z:Int) + 1) = ((z+1 : Nat) : Int) by rw [wr (by omega) (by omega)]; rfl]
                                    refine y (ev_move rfl) rfl ?_
                                    refine ynil' (kthn ?_)
                                    first
                                      | (exfalso; omega; done)
                                      | exact hL7 (z + 1) (show z + 1 ≤ 144 by omega) (by omega) _ _ (by repeat first | exact sub_nil | refine sub_cons rfl ?_ | refine sub_cons' rfl (by simp) ?_) (by repeat first | exact .refl | exact .nil | exact .z | apply Pk.s | refine Ge.e ?_ | apply Ge.pick | apply Ge.drop)
                                · (try simp only [decide_eq_true_eq, beq_iff_eq, beq_eq_false_iff_ne, decide_eq_decide, decide_eq_false_iff_not, Bool.not_eq_true', Bool.not_eq_false', Bool.not_eq_true, Bool.not_eq_false, Bool.not_not, ne_eq, Option.isNone_some, Option.isSome_some, Option.isNone_none, Option.isSome_none] at h122)
                                  refine hr0 rfl rfl rfl rfl rfl ?_
                                  refine hr0 rfl rfl rfl rfl rfl ?_
                                  refine hr0 rfl rfl rfl rfl rfl ?_
                                  refine hr0 rfl rfl rfl rfl rfl ?_
                                  refine hr0 rfl rfl rfl rfl rfl ?_
                                  refine hr0 rfl rfl rfl rfl rfl ?_
                                  refine hr0 rfl rfl rfl rfl rfl ?_
                                  refine hr0 rfl rfl rfl rfl rfl ?_
                                  refine hr0 rfl rfl rfl rfl rfl ?_
                                  refine hr0 rfl rfl rfl rfl rfl ?_
                                  refine hr0 rfl rfl rfl rfl rfl ?_
                                  refine hr0 rfl rfl rfl rfl rfl ?_
                                  refine hr1 rfl rfl rfl (ev_pick0 rfl rfl) rfl ?_
                                  refine hnil ?_
                                  refine y (ev_pick1 rfl rfl) rfl ?_
                                  refine hnoP' (kthn (hK45 _ _ ?_))
                                  clear hK45
                                  refine ccond0 rfl ?_
                                  refine cskip' (kbn (kthn (hK43 _ _ ?_)))
                                  clear hK43
                                  refine creg ?_
                                  refine y (ev_add rfl rfl) rfl ?_
                                  rw [show IntKind.i64.wrap ((z:Int) + 1) = ((z+1 : Nat) : Int) by rw [wr (by omega) (by omega)]; rfl]
                                  refine y (ev_move rfl) rfl ?_
                                  refine ynil' (kthn ?_)
                                  first
                                    | (exfalso; omega; done)
                                    | exact hL7 (z + 1) (show z + 1 ≤ 144 by omega) (by omega) _ _ (by repeat first | exact sub_nil | refine sub_cons rfl ?_ | refine sub_cons' rfl (by simp) ?_) (by repeat first | exact .refl | exact .nil | exact .z | apply Pk.s | refine Ge.e ?_ | apply Ge.pick | apply Ge.drop)
                              · (try simp only [decide_eq_true_eq, beq_iff_eq, beq_eq_false_iff_ne, decide_eq_decide, decide_eq_false_iff_not, Bool.not_eq_true', Bool.not_eq_false', Bool.not_eq_true, Bool.not_eq_false, Bool.not_not, ne_eq, Option.isNone_some, Option.isSome_some, Option.isNone_none, Option.isSome_none] at h118)
                                refine hr0 rfl rfl rfl rfl rfl ?_
                                refine hr0 rfl rfl rfl rfl rfl ?_
                                refine hr0 rfl rfl rfl rfl rfl ?_
                                refine hr0u rfl rfl rfl rfl ?_
                                refine hr0u rfl rfl rfl rfl ?_
                                refine hr0u rfl rfl rfl rfl ?_
                                refine hr0u rfl rfl rfl rfl ?_
                                refine hr0u rfl rfl rfl rfl ?_
                                refine hr0u rfl rfl rfl rfl ?_
                                refine hr0u rfl rfl rfl rfl ?_
                                refine hr0u rfl rfl rfl rfl ?_
                                refine hr0u rfl rfl rfl rfl ?_
                                refine hr0u rfl rfl rfl rfl ?_
                                refine hr0u rfl rfl rfl rfl ?_
                                refine hr0u rfl rfl rfl rfl ?_
                                refine hr0 rfl rfl rfl rfl rfl ?_
                                refine hnil ?_
                                refine y (ev_pick0 rfl rfl) rfl ?_
                                refine hnoP' (kthn (hK45 _ _ ?_))
                                clear hK45
                                refine ccond0 rfl ?_
                                refine cskip' (kbn (kthn (hK43 _ _ ?_)))
                                clear hK43
                                refine creg ?_
                                refine y (ev_add rfl rfl) rfl ?_
                                rw [show IntKind.i64.wrap ((z:Int) + 1) = ((z+1 : Nat) : Int) by rw [wr (by omega) (by omega)]; rfl]
                                refine y (ev_move rfl) rfl ?_
                                refine ynil' (kthn ?_)
                                first
                                  | (exfalso; omega; done)
                                  | exact hL7 (z + 1) (show z + 1 ≤ 144 by omega) (by omega) _ _ (by repeat first | exact sub_nil | refine sub_cons rfl ?_ | refine sub_cons' rfl (by simp) ?_) (by repeat first | exact .refl | exact .nil | exact .z | apply Pk.s | refine Ge.e ?_ | apply Ge.pick | apply Ge.drop)
                            · (try simp only [decide_eq_true_eq, beq_iff_eq, beq_eq_false_iff_ne, decide_eq_decide, decide_eq_false_iff_not, Bool.not_eq_true', Bool.not_eq_false', Bool.not_eq_true, Bool.not_eq_false, Bool.not_not, ne_eq, Option.isNone_some, Option.isSome_some, Option.isNone_none, Option.isSome_none] at h102)
                              refine cexit (kthx (kthx (kbx (kbn (kthn (hK32 _ _ ?_))))))
                              clear hK32
                              refine creg ?_
                              refine y (ev_move rfl) rfl ?_
                              refine y (ev_add rfl rfl) rfl ?_
                              rw [show IntKind.i64.wrap ((k:Int) + 1) = ((k+1 : Nat) : Int) by rw [wr (by omega) (by omega)]; rfl]
                              refine y (ev_assign rfl) rfl ?_
                              refine ynil' (kthn ?_)
                              exact hL6 (k + 1) (show k + 1 ≤ n.toNat by omega) (by omega) _ _ (by repeat first | exact sub_nil | refine sub_cons rfl ?_ | refine sub_cons' rfl (by simp) ?_) (by repeat first | exact .refl | exact .nil | exact .z | apply Pk.s | refine Ge.e ?_ | apply Ge.pick | apply Ge.drop)
                          · skip
                            first
                              | refine hr1 rfl rfl rfl (ev_lookups (hpk.get hp) rfl rfl Try.underlying54 Try.underlying3 Try.zeroValue4 (by repeat first | exact .z | apply In.s)) rfl ?_
                              | refine hr1 rfl rfl rfl (ev_lookupn (hpk.none hp) rfl rfl Try.underlying54 Try.underlying3 Try.zeroValue4 (by repeat first | exact .z | apply In.s)) rfl ?_
                            refine hr1 rfl rfl rfl (ev_not rfl) rfl ?_
                            refine hr1 rfl rfl rfl (ev_move rfl) rfl ?_
                            refine hr1 rfl rfl rfl (ev_move rfl) rfl ?_
                            refine hr1 rfl rfl rfl (ev_toStr (bs := D3.sec k) rfl Try.underlying27 Try.underlying9 Try.underlying5 (sec_length hU3.ok _).symm (by repeat first | exact .z | apply In.s) (sec_take (sec_length hU3.ok _))) rfl ?_
                            refine hr1 rfl rfl rfl (ev_move rfl) rfl ?_
                            refine hr1 rfl rfl rfl (ev_move rfl) rfl ?_
                            first
                              | refine hr1 rfl rfl rfl (ev_ixAddr rfl rfl Try.underlying53 Try.sizeOf27 (by omega) (by omega)) rfl ?_
                              | refine hr1 rfl rfl rfl (ev_ixV (by assumption) rfl rfl Try.underlying53 Try.sizeOf27 (by omega) (by omega)) rfl ?_
                            refine hr1 rfl rfl rfl (ev_loadV k hpW (by repeat first | exact .refl | exact .nil | exact .z | apply Pk.s | refine Ge.e ?_ | apply Ge.pick | apply Ge.drop) rfl Try.isAgg27 (by simp) hvW) rfl ?_
                            refine hr1 rfl rfl rfl (ev_toStrB hbW (by repeat first | exact .refl | exact .nil | exact .z | apply Pk.s | refine Ge.e ?_ | apply Ge.pick | apply Ge.drop) rfl Try.underlying27 Try.underlying9 Try.underlying5) rfl ?_
                            first
                              | refine hr1 rfl rfl rfl (ev_neqL rfl rfl) rfl ?_
                              | refine hr1 rfl rfl rfl (ev_neqS rfl rfl) rfl ?_
                            refine hr1 rfl rfl rfl (ev_pick1 rfl rfl) rfl ?_
                            refine hnil ?_
                            refine y (ev_pick0 rfl rfl) rfl ?_
                            refine hnoP' (kthn (hK35 _ _ ?_))
                            clear hK35
                            refine ccond rfl (fun h164 => ?_) (fun h164 => ?_)
                            · (try simp only [decide_eq_true_eq, beq_iff_eq, beq_eq_false_iff_ne, decide_eq_decide, decide_eq_false_iff_not, Bool.not_eq_true', Bool.not_eq_false', Bool.not_eq_true, Bool.not_eq_false, Bool.not_not, ne_eq, Option.isNone_some, Option.isSome_some, Option.isNone_none, Option.isSome_none] at h164)
                              refine cseq ?_; intro K47 hK47
                              refine creg ?_
                              refine y (ev_assign rfl) rfl ?_
                              refine ynil' (kthn (hK47 _ _ ?_))
                              clear hK47
                              refine cret (kthr (kbr (kthr (kthr (kbr (kthr ?_))))))
                              first
                                | (exfalso; omega; done)
                                | (refine kretv Try.results5 rfl (L1 := R) (by repeat first | exact .refl | exact .nil | exact .z | apply Pk.s | refine Ge.e ?_ | apply Ge.pick | apply Ge.drop) ?_
                                   exact ⟨_, ⟨by first | rfl | (exfalso; omega; done) | (exfalso; rcases hsbz with e | e <;> simp_all; done) | (exfalso; simp_all; done) | (simp; omega) | simp_all, rfl⟩, by first | rfl | (exfalso; omega; done) | (exfalso; rcases hsbz with e | e <;> simp_all; done) | (exfalso; simp_all; done) | (simp; omega) | simp_all⟩)
                            · (try simp only [decide_eq_true_eq, beq_iff_eq, beq_eq_false_iff_ne, decide_eq_decide, decide_eq_false_iff_not, Bool.not_eq_true', Bool.not_eq_false', Bool.not_eq_true, Bool.not_eq_false, Bool.not_not, ne_eq, Option.isNone_some, Option.isSome_some, Option.isNone_none, Option.isSome_none] at h164)
                              refine cskip' (kthn (hK34 _ _ ?_))
                              clear hK34
                              refine cseq ?_; intro K48 hK48
                              refine creg ?_
                              refine y (ev_move rfl) rfl ?_
                              first
                                | refine y (ev_len rfl Try.underlying27) rfl ?_
                                | refine y (ev_lenSv rfl Try.underlying27 (by assumption)) rfl ?_
                                | refine y (ev_lenV rfl Try.underlying27 (RdV.lenVal (by assumption))) rfl ?_
                                | refine y (ev_lenV rfl Try.underlying27 (RdB.lenVal (by assumption))) rfl ?_
                              refine y (ev_move rfl) rfl ?_
                              refine ynil' (kthn (hK48 _ _ ?_))
                              clear hK48
                              refine cblock ?_
                              refine cloop (A := Nat) (fun x => [(176, i64 x), (175, i64 144), (25, .slice (some ⟨b148, 0, none⟩) 144 cap148), (24, i64 k), (21, .map (some b126)), (16, svVal sN n.toNat), (17, .bool D2.dead), (11, svVal sW n.toNat), (9, dp q), (0, i64 n)]) (fun x => [sc b148 (bytesV (D3.sec k) ++ sp148) 5, dev q D3, so b126 (.map (ents kvp) cp), svSeg sN 27 vsN, sgN, svSeg sW 27 vsW, sgW] ++ R) (fun x => x ≤ 144) (fun x => 144 - x) (0) ?_ (by repeat first | exact sub_nil | refine sub_cons rfl ?_ | refine sub_cons' rfl (by simp) ?_) (by repeat first | exact .refl | exact .nil | exact .z | apply Pk.s | refine Ge.e ?_ | apply Ge.pick | apply Ge.drop) ?_
                              · exact Nat.zero_le _
                              rintro z hI7 KL7 hL7
                              have hI7o := hI7
                              have hz7 := hI7
                              refine cseq ?_; intro K49 hK49
                              refine creg ?_
                              refine y (ev_lss rfl rfl) rfl ?_
                              refine ynil' (kthn (hK49 _ _ ?_))
                              clear hK49
                              refine cseq ?_; intro K50 hK50
                              refine ccond rfl (fun h170 => ?_) (fun h170 => ?_)
                              · (try simp only [decide_eq_true_eq, beq_iff_eq, beq_eq_false_iff_ne, decide_eq_decide, decide_eq_false_iff_not, Bool.not_eq_true', Bool.not_eq_false', Bool.not_eq_true, Bool.not_eq_false, Bool.not_not, ne_eq, Option.isNone_some, Option.isSome_some, Option.isNone_none, Option.isSome_none] at h170)
                                have hsbz := hsb k z (by omega) (by omega) (by omega)
                                refine cskip' (kthn (hK50 _ _ ?_))
                                clear hK50
                                refine cseq ?_; intro K51 hK51
                                refine cblock ?_
                                refine cseq ?_; intro K52 hK52
                                refine creg ?_
                                refine y (ev_move rfl) rfl ?_
                                refine y (ev_assign rfl) rfl ?_
                                refine ynil' (kthn (hK52 _ _ ?_))
                                clear hK52
                                refine cseq ?_; intro K53 hK53
                                refine cdraw 29 [(0, true), (1, true), (2, true), (3, true), (4, true), (5, true), (6, true), (7, true), (8, true), (9, true), (10, true), (11, true), (12, true), (13, true), (14, true), (15, true), (16, true), (17, true), (18, true), (19, true), (20, true), (21, true), (22, true), (23, true), (24, true), (25, true), (26, true), (27, true), (28, true)] (_) Try.mixed (by kernel_rfl) .refl ?_
                                refine hr rfl (ev_move rfl) rfl ?_
                                refine hr rfl (ev_move rfl) rfl ?_
                                first
                                  | refine hr rfl (ev_ixAddr rfl rfl Try.underlying27 Try.sizeOf5 (by omega) (by omega)) rfl ?_
                                  | refine hr rfl (ev_ixV (by assumption) rfl rfl Try.underlying27 Try.sizeOf5 (by omega) (by omega)) rfl ?_
                                refine hr rfl (ev_load rfl Try.isAgg5 (by repeat first | exact .z | apply In.s) (by rw [show 0 + (z : Int).toNat * 1 = z by simp]; exact bytesV_get' (by rw [sec_length hU3.ok]; omega))) rfl ?_
                                refine hr rfl (ev_move rfl) rfl ?_
                                refine hr rfl (ev_move rfl) rfl ?_
                                first
                                  | refine hr rfl (ev_ixAddr rfl rfl Try.underlying53 Try.sizeOf27 (by omega) (by omega)) rfl ?_
                                  | refine hr rfl (ev_ixV (by assumption) rfl rfl Try.underlying53 Try.sizeOf27 (by omega) (by omega)) rfl ?_
                                refine hr rfl (ev_loadV k hpW (by repeat first | exact .refl | exact .nil | exact .z | apply Pk.s | refine Ge.e ?_ | apply Ge.pick | apply Ge.drop) rfl Try.isAgg27 (by simp) hvW) rfl ?_
                                refine hr rfl (ev_move rfl) rfl ?_
                                first
                                  | refine hr rfl (ev_ixAddr rfl rfl Try.underlying27 Try.sizeOf5 (by omega) (by omega)) rfl ?_
                                  | refine hr rfl (ev_ixV (by assumption) rfl rfl Try.underlying27 Try.sizeOf5 (by omega) (by omega)) rfl ?_
                                refine hr rfl (ev_loadV z hrowW (by repeat first | exact .refl | exact .nil | exact .z | apply Pk.s | refine Ge.e ?_ | apply Ge.pick | apply Ge.drop) rfl Try.isAgg5 (by simp) (bytesV_get (by rw [sec_length hD1]; omega))) rfl ?_
                                refine hr rfl (ev_neq rfl rfl) rfl ?_
                                refine hr rfl (ev_move rfl) rfl ?_
                                refine hsplit 191 rfl (fun h186 => ?_) (fun h186 => ?_)
                                · (try simp only [decide_eq_true_eq, beq_iff_eq, beq_eq_false_iff_ne, decide_eq_decide, decide_eq_false_iff_not, Bool.not_eq_true', Bool.not_eq_false', Bool.not_eq_true, Bool.not_eq_false, Bool.not_not, ne_eq, Option.isNone_some, Option.isSome_some, Option.isNone_none, Option.isSome_none] at h186)
                                  refine hr1 rfl rfl rfl (ev_move rfl) rfl ?_
                                  refine hr1 rfl rfl rfl (ev_not rfl) rfl ?_
                                  refine hr1 rfl rfl rfl (ev_move rfl) rfl ?_
                                  refine hsplit 194 rfl (fun h190 => ?_) (fun h190 => ?_)
                                  · (try simp only [decide_eq_true_eq, beq_iff_eq, beq_eq_false_iff_ne, decide_eq_decide, decide_eq_false_iff_not, Bool.not_eq_true', Bool.not_eq_false', Bool.not_eq_true, Bool.not_eq_false, Bool.not_not, ne_eq, Option.isNone_some, Option.isSome_some, Option.isNone_none, Option.isSome_none] at h190)
                                    refine hr1 rfl rfl rfl (ev_move rfl) rfl ?_
                                    have hrowN' := hrowN (by assumption)
                                    refine hr1 rfl rfl rfl (ev_move rfl) rfl ?_
                                    first
                                      | refine hr1 rfl rfl rfl (ev_ixAddr rfl rfl Try.underlying27 Try.sizeOf5 (by omega) (by omega)) rfl ?_
                                      | refine hr1 rfl rfl rfl (ev_ixV (by assumption) rfl rfl Try.underlying27 Try.sizeOf5 (by omega) (by omega)) rfl ?_
                                    refine hr1 rfl rfl rfl (ev_load rfl Try.isAgg5 (by repeat first | exact .z | apply In.s) (by rw [show 0 + (z : Int).toNat * 1 = z by simp]; exact bytesV_get' (by rw [sec_length hU3.ok]; omega))) rfl ?_
                                    refine hr1 rfl rfl rfl (ev_move rfl) rfl ?_
                                    refine hr1 rfl rfl rfl (ev_move rfl) rfl ?_
                                    first
                                      | refine hr1 rfl rfl rfl (ev_ixAddr rfl rfl Try.underlying53 Try.sizeOf27 (by omega) (by omega)) rfl ?_
                                      | refine hr1 rfl rfl rfl (ev_ixV (by assumption) rfl rfl Try.underlying53 Try.sizeOf27 (by omega) (by omega)) rfl ?_
                                    refine hr1 rfl rfl rfl (ev_loadV k hpN (by repeat first | exact .refl | exact .nil | exact .z | apply Pk.s | refine Ge.e ?_ | apply Ge.pick | apply Ge.drop) rfl Try.isAgg27 (by simp) hvN) rfl ?_
                                    refine hr1 rfl rfl rfl (ev_move rfl) rfl ?_
                                    first
                                      | refine hr1 rfl rfl rfl (ev_ixAddr rfl rfl Try.underlying27 Try.sizeOf5 (by omega) (by omega)) rfl ?_
                                      | refine hr1 rfl rfl rfl (ev_ixV (by assumption) rfl rfl Try.underlying27 Try.sizeOf5 (by omega) (by omega)) rfl ?_
                                    refine hr1 rfl rfl rfl (ev_loadV z hrowN' (by repeat first | exact .refl | exact .nil | exact .z | apply Pk.s | refine Ge.e ?_ | apply Ge.pick | apply Ge.drop) rfl Try.isAgg5 (by simp) (bytesV_get (by rw [sec_length hD2]; omega))) rfl ?_
                                    refine hr1 rfl rfl rfl (ev_neq rfl rfl) rfl ?_
                                    refine hr1 rfl rfl rfl (ev_pick1 rfl rfl) rfl ?_
                                    refine hnil ?_
                                    refine y (ev_pick1 rfl rfl) rfl ?_
                                    refine hnoP' (kthn (hK53 _ _ ?_))
                                    clear hK53
                                    refine ccond rfl (fun h205 => ?_) (fun h205 => ?_)
                                    · (try simp only [decide_eq_true_eq, beq_iff_eq, beq_eq_false_iff_ne, decide_eq_decide, decide_eq_false_iff_not, Bool.not_eq_true', Bool.not_eq_false', Bool.not_eq_true, Bool.not_eq_false, Bool.not_not, ne_eq, Option.isNone_some, Option.isSome_some, Option.isNone_none, Option.isSome_none] at h205)
                                      refine cseq ?_; intro K54 hK54
                                      refine creg ?_
                                      refine y (ev_assign rfl) rfl ?_
                                      refine ynil' (kthn (hK54 _ _ ?_))
                                      clear hK54
                                      refine cret (kbr (kthr (kthr (kbr (kbr (kthr (kthr (kbr (kthr ?_)))))))))
                                      first
                                        | (exfalso; omega; done)
                                        | (refine kretv Try.results5 rfl (L1 := R) (by repeat first | exact .refl | exact .nil | exact .z | apply Pk.s | refine Ge.e ?_ | apply Ge.pick | apply Ge.drop) ?_
                                           exact ⟨_, ⟨by first | rfl | (exfalso; omega; done) | (exfalso; rcases hsbz with e | e <;> simp_all; done) | (exfalso; simp_all; done) | (simp; omega) | simp_all, rfl⟩, by first | rfl | (exfalso; omega; done) | (exfalso; rcases hsbz with e | e <;> simp_all; done) | (exfalso; simp_all; done) | (simp; omega) | simp_all⟩)
                                    · (try simp only [decide_eq_true_eq, beq_iff_eq, beq_eq_false_iff_ne, decide_eq_decide, decide_eq_false_iff_not, Bool.not_eq_true', Bool.not_eq_false', Bool.not_eq_true, Bool.not_eq_false, Bool.not_not, ne_eq, Option.isNone_some, Option.isSome_some, Option.isNone_none, Option.isSome_none] at h205)
                                      refine cskip' (kbn (kthn (hK51 _ _ ?_)))
                                      clear hK51
                                      refine creg ?_
                                      refine y (ev_add rfl rfl) rfl ?_
                                      rw [show IntKind.i64.wrap ((z:Int) + 1) = ((z+1 : Nat) : Int) by rw [wr (by omega) (by omega)]; rfl]
                                      refine y (ev_move rfl) rfl ?_
                                      refine ynil' (kthn ?_)
                                      first
                                        | (exfalso; omega; done)
                                        | exact hL7 (z + 1) (show z + 1 ≤ 144 by omega) (by omega) _ _ (by repeat first | exact sub_nil | refine sub_cons rfl ?_ | refine sub_cons' rfl (by simp) ?_) (by repeat first | exact .refl | exact .nil | exact .z | apply Pk.s | refine Ge.e ?_ | apply Ge.pick | apply Ge.drop)
                                  · (try simp only [decide_eq_true_eq, beq_iff_eq, beq_eq_false_iff_ne, decide_eq_decide, decide_eq_false_iff_not, Bool.not_eq_true', Bool.not_eq_false', Bool.not_eq_true, Bool.not_eq_false, Bool.not_not, ne_eq, Option.isNone_some, Option.isSome_some, Option.isNone_none, Option.isSome_none] at h190)
                                    refine hr0 rfl rfl rfl rfl rfl ?_
                                    refine hr0 rfl rfl rfl rfl rfl ?_
                                    refine hr0 rfl rfl rfl rfl rfl ?_
                                    refine hr0 rfl rfl rfl rfl rfl ?_
                                    refine hr0 rfl rfl rfl rfl rfl ?_
                                    refine hr0 rfl rfl rfl rfl rfl ?_
                                    refine hr0 rfl rfl rfl rfl rfl ?_
                                    refine hr0 rfl rfl rfl rfl rfl ?_
                                    refine hr0 rfl rfl rfl rfl rfl ?_
                                    refine hr0 rfl rfl rfl rfl rfl ?_
                                    refine hr0 rfl rfl rfl rfl rfl ?_
                                    refine hr0 rfl rfl rfl rfl rfl ?_
                                    refine hr1 rfl rfl rfl (ev_pick0 rfl rfl) rfl ?_
                                    refine hnil ?_
                                    refine y (ev_pick1 rfl rfl) rfl ?_
                                    refine hnoP' (kthn (hK53 _ _ ?_))
                                    clear hK53
                                    refine ccond0 rfl ?_
                                    refine cskip' (kbn (kthn (hK51 _ _ ?_)))
                                    clear hK51
                                    refine creg ?_
                                    refine y (ev_add rfl rfl) rfl ?_
                                    rw [show IntKind.i64.wrap ((z:Int) + 1) = ((z+1 : Nat) : Int) by rw [wr (by omega) (by omega)]; rfl]
                                    refine y (ev_move rfl) rfl ?_
                                    refine ynil' (kthn ?_)
                                    first
                                      | (exfalso; omega; done)
                                      | exact hL7 (z + 1) (show z + 1 ≤ 144 by omega) (by omega) _ _ (by repeat first | exact sub_nil | refine sub_cons rfl ?_ | refine sub_cons' rfl (by simp) ?_) (by repeat first | exact .refl | exact .nil | exact .z | apply Pk.s | refine Ge.e ?_ | apply Ge.pick | apply Ge.drop)
                                · (try simp only [decide_eq_true_eq, beq_iff_eq, beq_eq_false_iff_ne, decide_eq_decide, decide_eq_false_iff_not, Bool.not_eq_true', Bool.not_eq_false', Bool.not_eq_true, Bool.not_eq_false, Bool.not_not, ne_eq, Option.isNone_some, Option.isSome_some, Option.isNone_none, Option.isSome_none] at h186)
                                  refine hr0 rfl rfl rfl rfl rfl ?_
                                  refine hr0 rfl rfl rfl rfl rfl ?_
                                  refine hr0 rfl rfl rfl rfl rfl ?_
                                  refine hr0u rfl rfl rfl rfl ?_
                                  refine hr0u rfl rfl rfl rfl ?_
                                  refine hr0u rfl rfl rfl rfl ?_
                                  refine hr0u rfl rfl rfl rfl ?_
                                  refine hr0u rfl rfl rfl rfl ?_
                                  refine hr0u rfl rfl rfl rfl ?_
                                  refine hr0u rfl rfl rfl rfl ?_
                                  refine hr0u rfl rfl rfl rfl ?_
                                  refine hr0u rfl rfl rfl rfl ?_
                                  refine hr0u rfl rfl rfl rfl ?_
                                  refine hr0u rfl rfl rfl rfl ?_
                                  refine hr0u rfl rfl rfl rfl ?_
                                  refine hr0 rfl rfl rfl rfl rfl ?_
                                  refine hnil ?_
                                  refine y (ev_pick0 rfl rfl) rfl ?_
                                  refine hnoP' (kthn (hK53 _ _ ?_))
                                  clear hK53
                                  refine ccond0 rfl ?_
                                  refine cskip' (kbn (kthn (hK51 _ _ ?_)))
                                  clear hK51
                                  refine creg ?_
                                  refine y (ev_add rfl rfl) rfl ?_
                                  rw [show IntKind.i64.wrap ((z:Int) + 1) = ((z+1 : Nat) : Int) by rw [wr (by omega) (by omega)]; rfl]
                                  refine y (ev_move rfl) rfl ?_
                                  refine ynil' (kthn ?_)
                                  first
                                    | (exfalso; omega; done)
                                    | exact hL7 (z + 1) (show z + 1 ≤ 144 by omega) (by omega) _ _ (by repeat first | exact sub_nil | refine sub_cons rfl ?_ | refine sub_cons' rfl (by simp) ?_) (by repeat first | exact .refl | exact .nil | exact .z | apply Pk.s | refine Ge.e ?_ | apply Ge.pick | apply Ge.drop)
                              · (try simp only [decide_eq_true_eq, beq_iff_eq, beq_eq_false_iff_ne, decide_eq_decide, decide_eq_false_iff_not, Bool.not_eq_true', Bool.not_eq_false', Bool.not_eq_true, Bool.not_eq_false, Bool.not_not, ne_eq, Option.isNone_some, Option.isSome_some, Option.isNone_none, Option.isSome_none] at h170)
                                refine cexit (kthx (kthx (kbx (kbn (kthn (hK32 _ _ ?_))))))
                                clear hK32
                                refine creg ?_
                                refine y (ev_move rfl) rfl ?_
                                refine y (ev_add rfl rfl) rfl ?_
                                rw [show IntKind.i64.wrap ((k:Int) + 1) = ((k+1 : Nat) : Int) by rw [wr (by omega) (by omega)]; rfl]
                                refine y (ev_assign rfl) rfl ?_
                                refine ynil' (kthn ?_)
                                exact hL6 (k + 1) (show k + 1 ≤ n.toNat by omega) (by omega) _ _ (by repeat first | exact sub_nil | refine sub_cons rfl ?_ | refine sub_cons' rfl (by simp) ?_) (by repeat first | exact .refl | exact .nil | exact .z | apply Pk.s | refine Ge.e ?_ | apply Ge.pick | apply Ge.drop)
                    · (try simp only [decide_eq_true_eq, beq_iff_eq, beq_eq_false_iff_ne, decide_eq_decide, decide_eq_false_iff_not, Bool.not_eq_true', Bool.not_eq_false', Bool.not_eq_true, Bool.not_eq_false, Bool.not_not, ne_eq, Option.isNone_some, Option.isSome_some, Option.isNone_none, Option.isSome_none] at h62)
                      refine cexit (kthx (kthx (kbx (kthn ?_))))
                      exact ksub (by repeat first | exact sub_nil | refine sub_cons rfl ?_ | refine sub_cons' rfl (by simp) ?_) (by repeat first | exact .refl | exact .nil | exact .z | apply Pk.s | refine Ge.e ?_ | apply Ge.pick | apply Ge.drop) (hJ6 k ⟨hI6o, by first | trivial | omega⟩)
                  clear hK24
                  refine cblock ?_
                  refine cloop (A := Nat × Kv × Nat) (fun x => [(130, i64 x.1), (129, i64 D2.es.length), (128, svVal s128 D2.es.length), (21, .map (some b126)), (16, svVal sN n.toNat), (17, .bool D2.dead), (11, svVal sW n.toNat), (9, dp q), (0, i64 n), (3, kv)]) (fun x => [svSeg s128 3 (intsV D2.pending), so b126 (.map (ents x.2.1) x.2.2), dev q D2, svSeg sN 27 vsN, sgN, svSeg sW 27 vsW, sgW] ++ R) (fun x => PendOk (D2.pending.take x.1) x.2.1 ∧ x.1 ≤ D2.es.length) (fun x => D2.es.length - x.1) ((0, [], 0)) ?_ (by repeat first | exact sub_nil | refine sub_cons rfl ?_ | refine sub_cons' rfl (by simp) ?_) (by repeat first | exact .refl | exact .nil | exact .z | apply Pk.s | refine Ge.e ?_ | apply Ge.pick | apply Ge.drop) ?_
                  · exact ⟨⟨rfl, by simp⟩, Nat.zero_le _⟩
                  rintro ⟨k, kvp, cp⟩ hI5 KL5 hL5
                  have hI5o := hI5
                  obtain ⟨hpk, hkp⟩ := hI5; dsimp only at hpk hkp ⊢
                  have hp128 : RdV [svSeg s128 3 (intsV D2.pending)] (svVal s128 D2.es.length) D2.es.length (intsV D2.pending) := rdV_sv .z ok128
                  have hnd : D2.pending.Nodup := (List.mergeSort_perm _ _).nodup_iff.2 hD2.uniq
                  refine cseq ?_; intro K55 hK55
                  refine creg ?_
                  refine y (ev_lss rfl rfl) rfl ?_
                  refine ynil' (kthn (hK55 _ _ ?_))
                  clear hK55
                  refine cseq ?_; intro K56 hK56
                  refine ccond rfl (fun h220 => ?_) (fun h220 => ?_)
                  · (try simp only [decide_eq_true_eq, beq_iff_eq, beq_eq_false_iff_ne, decide_eq_decide, decide_eq_false_iff_not, Bool.not_eq_true', Bool.not_eq_false', Bool.not_eq_true, Bool.not_eq_false, Bool.not_not, ne_eq, Option.isNone_some, Option.isSome_some, Option.isNone_none, Option.isSome_none] at h220)
                    obtain ⟨i, hi, him⟩ := pend_at (D := D2) (k := k) (by omega)
                    refine cskip' (kthn (hK56 _ _ ?_))
                    clear hK56
                    refine cseq ?_; intro K57 hK57
                    refine cblock ?_
                    refine cseq ?_; intro K58 hK58
                    refine creg ?_
                    first
                      | refine y (ev_ixAddr rfl rfl Try.underlying42 Try.sizeOf3 (by omega) (by omega)) rfl ?_
                      | refine y (ev_ixV (by assumption) rfl rfl Try.underlying42 Try.sizeOf3 (by omega) (by omega)) rfl ?_
                    refine y (ev_loadV k hp128 (by repeat first | exact .refl | exact .nil | exact .z | apply Pk.s | refine Ge.e ?_ | apply Ge.pick | apply Ge.drop) rfl Try.isAgg3 (by simp) (intsV_get hi)) rfl ?_
                    refine y (ev_assign rfl) rfl ?_
                    refine ynil' (kthn (hK58 _ _ ?_))
                    clear hK58
                    refine creg ?_
                    refine y (ev_move rfl) rfl ?_
                    refine y (ev_move rfl) rfl ?_
                    refine ya0 (ac_mapUpdate rfl rfl rfl Try.underlying54 Try.underlying3 ?uniq226 (by repeat first | exact .z | apply Rp.s)) ?_
                    case uniq226 => unfold uniq; rw [hpk.keys]; exact (List.take_sublist _ _).nodup hnd
                    rintro v L' ⟨rfl, rfl⟩
                    refine ynil' (kbn (kthn (hK57 _ _ ?_)))
                    clear hK57
                    refine creg ?_
                    refine y (ev_add rfl rfl) rfl ?_
                    rw [show IntKind.i64.wrap ((k:Int) + 1) = ((k+1 : Nat) : Int) by rw [wr (by omega) (by omega)]; rfl]
                    refine y (ev_move rfl) rfl ?_
                    refine ynil' (kthn ?_)
                    exact hL5 ((k + 1, mput kvp cp i (.bool true), mclk kvp cp i)) (⟨by dsimp only; rw [take_succ_get hi]; exact hpk.put (take_not hnd hi), by dsimp only; omega⟩) (by dsimp only; omega) _ _ (by repeat first | exact sub_nil | refine sub_cons rfl ?_ | refine sub_cons' rfl (by simp) ?_) (by repeat first | exact .refl | exact .nil | exact .z | apply Pk.s | refine Ge.e ?_ | apply Ge.pick | apply Ge.drop)
                  · (try simp only [decide_eq_true_eq, beq_iff_eq, beq_eq_false_iff_ne, decide_eq_decide, decide_eq_false_iff_not, Bool.not_eq_true', Bool.not_eq_false', Bool.not_eq_true, Bool.not_eq_false, Bool.not_not, ne_eq, Option.isNone_some, Option.isSome_some, Option.isNone_none, Option.isSome_none] at h220)
                    refine cexit (kthx (kthx (kbx (kthn ?_))))
                    exact ksub (by repeat first | exact sub_nil | refine sub_cons rfl ?_ | refine sub_cons' rfl (by simp) ?_) (by repeat first | exact .refl | exact .nil | exact .z | apply Pk.s | refine Ge.e ?_ | apply Ge.pick | apply Ge.drop) (hJ5 ⟨k, kvp, cp⟩ ⟨hI5o, by first | trivial | omega⟩)
                clear hK21
                refine cblock ?_
                refine cloop (A := Nat × Sv × List Value × Seg) (fun x => [(18, i64 x.1), (16, svVal x.2.1 x.1), (17, .bool D2.dead), (11, svVal sW n.toNat), (9, dp q), (0, i64 n), (3, kv)]) (fun x => [dev q D2, svSeg x.2.1 27 x.2.2.1, x.2.2.2, svSeg sW 27 vsW, sgW] ++ R) (fun x => svOk x.2.1 x.1 1 x.2.2.1 ∧ RowsOk x.2.2.2 x.2.2.1 (D2.dead = false) (fun j => D2.sec j) ∧ x.1 ≤ n.toNat) (fun x => n.toNat - x.1) ((0, some (b108, 0, []), [], [])) ?_ (by repeat first | exact sub_nil | refine sub_cons rfl ?_ | refine sub_cons' rfl (by simp) ?_) (by repeat first | exact .refl | exact .nil | exact .z | apply Pk.s | refine Ge.e ?_ | apply Ge.pick | apply Ge.drop) ?_
                · exact ⟨⟨Nat.le_refl _, Nat.zero_le _, rfl, rfl⟩, .nil, Nat.zero_le _⟩
                rintro ⟨k, sN, vsN, sgN⟩ hI4 KL4 hL4
                have hI4o := hI4
                obtain ⟨okN, hrN, hkN⟩ := hI4; dsimp only at okN hrN hkN ⊢
                refine cseq ?_; intro K59 hK59
                refine cseq ?_; intro K60 hK60
                refine creg ?_
                refine y (ev_move rfl) rfl ?_
                refine y (ev_move rfl) rfl ?_
                refine y (ev_lss rfl rfl) rfl ?_
                refine ynil' (kthn (hK60 _ _ ?_))
                clear hK60
                refine ccond rfl (fun h232 => ?_) (fun h232 => ?_)
                · (try simp only [decide_eq_true_eq, beq_iff_eq, beq_eq_false_iff_ne, decide_eq_decide, decide_eq_false_iff_not, Bool.not_eq_true', Bool.not_eq_false', Bool.not_eq_true, Bool.not_eq_false, Bool.not_not, ne_eq, Option.isNone_some, Option.isSome_some, Option.isNone_none, Option.isSome_none] at h232)
                  refine cskip' (kthn (hK59 _ _ ?_))
                  clear hK59
                  refine cseq ?_; intro K61 hK61
                  refine cblock ?_
                  refine cseq ?_; intro K62 hK62
                  refine creg ?_
                  refine y (ev_move rfl) rfl ?_
                  refine y (ev_move rfl) rfl ?_
                  refine ycall (secReadRow hD2 (by omega) (by rw [hl2]; omega)) rfl Try.call30 (by repeat first | exact .nil | exact .z | apply Pk.s | apply Tk.cons) rfl ?_
                  rintro v L' ⟨au, mu, cu, su, eu, rfl, hu2, rfl⟩
                  refine y (ev_move rfl) rfl ?_
                  refine y (ev_extract rfl rfl) rfl ?_
                  refine y (ev_extract rfl rfl) rfl ?_
                  refine y (ev_assign rfl) rfl ?_
                  refine y (ev_assign rfl) rfl ?_
                  refine ynil' (kthn (hK62 _ _ ?_))
                  clear hK62
                  refine creg ?_
                  refine y (ev_move rfl) rfl ?_
                  refine y (ev_move rfl) rfl ?_
                  refine ya (ac_bsliceR rfl Try.underlying53 Try.sizeOf27 Try.zeroValue27 rfl rfl rfl rfl ⟨⟨_, _, rfl, (by first | rfl | simp), (by first | decide | simp)⟩, trivial⟩ (by dsimp [fillL, splice, vcells, reps] <;> rfl)) rfl ?_
                  rintro v L' ⟨b124, rfl, rfl⟩
                  refine ya (ac_append (xs := vsN) (m := k) (k := 1) (us := [.slice au mu cu]) (size := 1) rfl rfl (by repeat first | exact .z | apply Pk.s) Try.underlying53 Try.underlying53 (by intro q hq; cases hq) Try.typeInfo27 rfl rfl rfl ?ok244 ?src244 ?one244 ?big244) rfl ?_
                  case ok244 => exact okN
                  case src244 => exact src_at (by repeat first | exact .z | apply In.s) rfl rfl
                  case one244 => simp [Value.oneCell']
                  case big244 => show (k + 1) * 25 ≤ _; omega
                  rintro v L' ⟨s125, rfl, ok125, rfl⟩
                  refine y (ev_assign rfl) rfl ?_
                  refine ynil' (kbn (kthn (hK61 _ _ ?_)))
                  clear hK61
                  refine creg ?_
                  refine y (ev_move rfl) rfl ?_
                  refine y (ev_add rfl rfl) rfl ?_
                  rw [show IntKind.i64.wrap ((k:Int) + 1) = ((k+1 : Nat) : Int) by rw [wr (by omega) (by omega)]; rfl]
                  refine y (ev_assign rfl) rfl ?_
                  refine ynil' (kthn ?_)
                  exact ksub (fun _ _ h => h) (L' := [su, sgN, dev q D2, svSeg s125 27 (vsN ++ [.slice au mu cu]), svSeg sW 27 vsW, sgW] ++ R) (by repeat first | exact .refl | exact .nil | exact .z | apply Pk.s | refine Ge.e ?_ | apply Ge.pick | apply Ge.drop) (kre (L' := [su ++ sgN, dev q D2, svSeg s125 27 (vsN ++ [.slice au mu cu]), svSeg sW 27 vsW, sgW] ++ R) (by simp) (hL4 (k + 1, s125, vsN ++ [.slice au mu cu], su ++ sgN) ⟨ok125, hrN.add (by simpa using okN.len) rfl hu2, by dsimp only; omega⟩ (by dsimp only; omega) _ _ (by repeat first | exact sub_nil | refine sub_cons rfl ?_ | refine sub_cons' rfl (by simp) ?_) (by repeat first | exact .refl | exact .nil | exact .z | apply Pk.s | refine Ge.e ?_ | apply Ge.pick | apply Ge.drop)))
                · (try simp only [decide_eq_true_eq, beq_iff_eq, beq_eq_false_iff_ne, decide_eq_decide, decide_eq_false_iff_not, Bool.not_eq_true', Bool.not_eq_false', Bool.not_eq_true, Bool.not_eq_false, Bool.not_not, ne_eq, Option.isNone_some, Option.isSome_some, Option.isNone_none, Option.isSome_none] at h232)
                  refine cexit (kthx (kthx (kbx (kthn ?_))))
                  exact ksub (by repeat first | exact sub_nil | refine sub_cons rfl ?_ | refine sub_cons' rfl (by simp) ?_) (by repeat first | exact .refl | exact .nil | exact .z | apply Pk.s | refine Ge.e ?_ | apply Ge.pick | apply Ge.drop) (hJ4 ⟨k, sN, vsN, sgN⟩ ⟨hI4o, by first | trivial | omega⟩)
              clear hK17
              refine cblock ?_
              refine cloop (A := Nat × Dev) (fun x => [(15, i64 x.1), (11, svVal sW n.toNat), (9, dp q), (0, i64 n), (2, mv), (3, kv)]) (fun x => [dev q x.2, svSeg sW 27 vsW, sgW] ++ R) (fun x => x.2.ok ∧ x.2.l = D1.l ∧ x.1 ≤ more.length ∧ x.1 ≤ 80) (fun x => more.length - x.1) ((0, D1)) ?_ (by repeat first | exact sub_nil | refine sub_cons rfl ?_ | refine sub_cons' rfl (by simp) ?_) (by repeat first | exact .refl | exact .nil | exact .z | apply Pk.s | refine Ge.e ?_ | apply Ge.pick | apply Ge.drop) ?_
              · exact ⟨hD1, rfl, Nat.zero_le _, Nat.zero_le _⟩
              rintro ⟨k, D2⟩ hI3 KL3 hL3
              have hI3o := hI3
              obtain ⟨hD2, hl2, hk1, hk2⟩ := hI3; dsimp only at hD2 hl2 hk1 hk2 ⊢
              refine cseq ?_; intro K63 hK63
              refine cseq ?_; intro K64 hK64
              refine creg ?_
              refine y (ev_move rfl) rfl ?_
              refine y (ev_move rfl) rfl ?_
              first
                | refine y (ev_len rfl Try.underlying22) rfl ?_
                | refine y (ev_lenSv rfl Try.underlying22 (by assumption)) rfl ?_
                | refine y (ev_lenV rfl Try.underlying22 (RdV.lenVal (by assumption))) rfl ?_
                | refine y (ev_lenV rfl Try.underlying22 (RdB.lenVal (by assumption))) rfl ?_
              refine y (ev_lss rfl rfl) rfl ?_
              refine y (ev_move rfl) rfl ?_
              refine ysplit 85 rfl (fun h254 => ?_) (fun h254 => ?_)
              · (try simp only [decide_eq_true_eq, beq_iff_eq, beq_eq_false_iff_ne, decide_eq_decide, decide_eq_false_iff_not, Bool.not_eq_true', Bool.not_eq_false', Bool.not_eq_true, Bool.not_eq_false, Bool.not_not, ne_eq, Option.isNone_some, Option.isSome_some, Option.isNone_none, Option.isSome_none] at h254)
                refine yg1 rfl rfl ?_
                refine y (ev_move rfl) rfl ?_
                refine yg1 rfl rfl ?_
                refine y (ev_lss rfl rfl) rfl ?_
                refine y (ev_pick1 rfl rfl) rfl ?_
                refine ynil' (kthn (hK64 _ _ ?_))
                clear hK64
                refine ccond rfl (fun h258 => ?_) (fun h258 => ?_)
                · (try simp only [decide_eq_true_eq, beq_iff_eq, beq_eq_false_iff_ne, decide_eq_decide, decide_eq_false_iff_not, Bool.not_eq_true', Bool.not_eq_false', Bool.not_eq_true, Bool.not_eq_false, Bool.not_not, ne_eq, Option.isNone_some, Option.isSome_some, Option.isNone_none, Option.isSome_none] at h258)
                  obtain ⟨a, hka⟩ : ∃ a, more[k]? = some a := ⟨_, List.getElem?_eq_getElem (by omega)⟩
                  have hact := hma a (List.mem_of_getElem? hka)
                  obtain ⟨hc0, hc1, hc2, hc3⟩ := actsV_at hka
                  refine cskip' (kthn (hK63 _ _ ?_))
                  clear hK63
                  refine cseq ?_; intro K65 hK65
                  refine cblock ?_
                  refine cseq ?_; intro K66 hK66
                  refine cseq ?_; intro K67 hK67
                  refine creg ?_
                  refine y (ev_move rfl) rfl ?_
                  refine y (ev_move rfl) rfl ?_
                  first
                    | refine y (ev_ixAddr rfl rfl Try.underlying22 Try.sizeOf30 (by omega) (by omega)) rfl ?_
                    | refine y (ev_ixV (by assumption) rfl rfl Try.underlying22 Try.sizeOf30 (by omega) (by omega)) rfl ?_
                  refine y (ev_loadNV (us := a.cells) (k * 4) hm (by repeat first | exact .refl | exact .nil | exact .z | apply Pk.s | refine Ge.e ?_ | apply Ge.pick | apply Ge.drop) rfl Try.isAgg30 Try.sizeOf30 (by simp) (actsV_get _ _ _ hka) rfl) rfl ?_
                  refine ycall (large ?act263) rfl Try.call21 (by repeat first | exact .nil | exact .z | apply Pk.s | apply Tk.cons) rfl ?_
                  case act263 => exact hact.mono (by repeat first | exact .refl | exact .nil | exact .z | apply Pk.s | refine Ge.e ?_ | apply Ge.pick | apply Ge.drop)
                  rintro v L' ⟨rfl, rfl⟩
                  refine ynil' (kthn (hK67 _ _ ?_))
                  clear hK67
                  refine ccond rfl (fun h264 => ?_) (fun h264 => ?_)
                  · (try simp only [decide_eq_true_eq, beq_iff_eq, beq_eq_false_iff_ne, decide_eq_decide, decide_eq_false_iff_not, Bool.not_eq_true', Bool.not_eq_false', Bool.not_eq_true, Bool.not_eq_false, Bool.not_not, ne_eq, Option.isNone_some, Option.isSome_some, Option.isNone_none, Option.isSome_none] at h264)
                    refine cseq ?_; intro K68 hK68
                    refine creg ?_
                    refine y (ev_assign rfl) rfl ?_
                    refine ynil' (kthn (hK68 _ _ ?_))
                    clear hK68
                    refine cret (kthr (kbr (kthr (kthr (kbr (kthr ?_))))))
                    first
                      | (exfalso; omega; done)
                      | (refine kretv Try.results5 rfl (L1 := R) (by repeat first | exact .refl | exact .nil | exact .z | apply Pk.s | refine Ge.e ?_ | apply Ge.pick | apply Ge.drop) ?_
                         exact ⟨_, ⟨by first | rfl | (exfalso; omega; done) | (exfalso; rcases hsbz with e | e <;> simp_all; done) | (exfalso; simp_all; done) | (simp; omega) | simp_all, rfl⟩, by first | rfl | (exfalso; omega; done) | (exfalso; rcases hsbz with e | e <;> simp_all; done) | (exfalso; simp_all; done) | (simp; omega) | simp_all⟩)
                  · (try simp only [decide_eq_true_eq, beq_iff_eq, beq_eq_false_iff_ne, decide_eq_decide, decide_eq_false_iff_not, Bool.not_eq_true', Bool.not_eq_false', Bool.not_eq_true, Bool.not_eq_false, Bool.not_not, ne_eq, Option.isNone_some, Option.isSome_some, Option.isNone_none, Option.isSome_none] at h264)
                    refine cskip' (kthn (hK66 _ _ ?_))
                    clear hK66
                    refine cdraw 11 [(0, true), (1, true), (2, true), (3, true), (4, true), (5, true), (6, true), (7, true), (8, true), (9, true), (10, true)] (_) Try.mixed (by kernel_rfl) .refl ?_
                    refine hr rfl (ev_move rfl) rfl ?_
                    refine hr rfl (ev_move rfl) rfl ?_
                    refine hr rfl (ev_move rfl) rfl ?_
                    first
                      | refine hr rfl (ev_ixAddr rfl rfl Try.underlying22 Try.sizeOf30 (by omega) (by omega)) rfl ?_
                      | refine hr rfl (ev_ixV (by assumption) rfl rfl Try.underlying22 Try.sizeOf30 (by omega) (by omega)) rfl ?_
                    refine hr rfl (ev_fieldAddr 1 rfl Try.underlying30 rfl Try.sizeOf3) rfl ?_
                    refine hr rfl (ev_loadV (k * 4 + 1) hm (by repeat first | exact .refl | exact .nil | exact .z | apply Pk.s | refine Ge.e ?_ | apply Ge.pick | apply Ge.drop) rfl Try.isAgg3 (by simp; omega) hc1) rfl ?_
                    refine hr rfl (ev_move rfl) rfl ?_
                    refine hr rfl (ev_move rfl) rfl ?_
                    first
                      | refine hr rfl (ev_ixAddr rfl rfl Try.underlying22 Try.sizeOf30 (by omega) (by omega)) rfl ?_
                      | refine hr rfl (ev_ixV (by assumption) rfl rfl Try.underlying22 Try.sizeOf30 (by omega) (by omega)) rfl ?_
                    refine hr rfl (ev_fieldAddr 2 rfl Try.underlying30 rfl Try.sizeOf27) rfl ?_
                    refine hr rfl (ev_loadV (k * 4 + 2) hm (by repeat first | exact .refl | exact .nil | exact .z | apply Pk.s | refine Ge.e ?_ | apply Ge.pick | apply Ge.drop) rfl Try.isAgg27 (by simp; omega) hc2) rfl ?_
                    refine hnil ?_
                    refine ycall (secWrite (bs := a.bs) ?ok277 ?rd277) rfl Try.call18 (by repeat first | exact .nil | exact .z | apply Pk.s | apply Tk.cons) rfl ?_
                    case ok277 => exact hD2
                    case rd277 => exact hact.bytes.mono (by repeat first | exact .refl | exact .nil | exact .z | apply Pk.s | refine Ge.e ?_ | apply Ge.pick | apply Ge.drop)
                    rintro v L' ⟨rfl, rfl⟩
                    refine hnoP' (kbn (kthn (hK65 _ _ ?_)))
                    clear hK65
                    refine creg ?_
                    refine y (ev_move rfl) rfl ?_
                    refine y (ev_add rfl rfl) rfl ?_
                    rw [show IntKind.i64.wrap ((k:Int) + 1) = ((k+1 : Nat) : Int) by rw [wr (by omega) (by omega)]; rfl]
                    refine y (ev_assign rfl) rfl ?_
                    refine ynil' (kthn ?_)
                    exact hL3 ((k + 1, (D2.write a.i a.bs).2)) (⟨Dev.write_ok hD2 _ _, write_l.trans hl2, by dsimp only; omega, by dsimp only; omega⟩) (by dsimp only; omega) _ _ (by repeat first | exact sub_nil | refine sub_cons rfl ?_ | refine sub_cons' rfl (by simp) ?_) (by repeat first | exact .refl | exact .nil | exact .z | apply Pk.s | refine Ge.e ?_ | apply Ge.pick | apply Ge.drop)
                · (try simp only [decide_eq_true_eq, beq_iff_eq, beq_eq_false_iff_ne, decide_eq_decide, decide_eq_false_iff_not, Bool.not_eq_true', Bool.not_eq_false', Bool.not_eq_true, Bool.not_eq_false, Bool.not_not, ne_eq, Option.isNone_some, Option.isSome_some, Option.isNone_none, Option.isSome_none] at h258)
                  refine cexit (kthx (kthx (kbx (kthn ?_))))
                  exact ksub (by repeat first | exact sub_nil | refine sub_cons rfl ?_ | refine sub_cons' rfl (by simp) ?_) (by repeat first | exact .refl | exact .nil | exact .z | apply Pk.s | refine Ge.e ?_ | apply Ge.pick | apply Ge.drop) (hJ3 ⟨k, D2⟩ ⟨hI3o, by first | trivial | omega⟩)
              · (try simp only [decide_eq_true_eq, beq_iff_eq, beq_eq_false_iff_ne, decide_eq_decide, decide_eq_false_iff_not, Bool.not_eq_true', Bool.not_eq_false', Bool.not_eq_true, Bool.not_eq_false, Bool.not_not, ne_eq, Option.isNone_some, Option.isSome_some, Option.isNone_none, Option.isSome_none] at h254)
                refine yg0 rfl rfl rfl rfl ?_
                refine yg0 rfl rfl rfl rfl ?_
                refine y (ev_pick0 rfl rfl) rfl ?_
                refine ynil' (kthn (hK64 _ _ ?_))
                clear hK64
                refine ccond0 rfl ?_
                refine cexit (kthx (kthx (kbx (kthn ?_))))
                exact ksub (by repeat first | exact sub_nil | refine sub_cons rfl ?_ | refine sub_cons' rfl (by simp) ?_) (by repeat first | exact .refl | exact .nil | exact .z | apply Pk.s | refine Ge.e ?_ | apply Ge.pick | apply Ge.drop) (hJ3 ⟨k, D2⟩ ⟨hI3o, by first | trivial | omega⟩)
            clear hK15
            refine cblock ?_
            refine cloop (A := Nat × Sv × List Value × Seg) (fun x => [(12, i64 x.1), (11, svVal x.2.1 x.1), (9, dp q), (0, i64 n), (2, mv), (3, kv)]) (fun x => [dev q D1, svSeg x.2.1 27 x.2.2.1, x.2.2.2] ++ R) (fun x => svOk x.2.1 x.1 1 x.2.2.1 ∧ RowsOk x.2.2.2 x.2.2.1 True (fun j => D1.sec j) ∧ x.1 ≤ n.toNat) (fun x => n.toNat - x.1) ((0, some (b65, 0, []), [], [])) ?_ (by repeat first | exact sub_nil | refine sub_cons rfl ?_ | refine sub_cons' rfl (by simp) ?_) (by repeat first | exact .refl | exact .nil | exact .z | apply Pk.s | refine Ge.e ?_ | apply Ge.pick | apply Ge.drop) ?_
            · exact ⟨⟨Nat.le_refl _, Nat.zero_le _, rfl, rfl⟩, .nil, Nat.zero_le _⟩
            rintro ⟨k, sW, vsW, sgW⟩ hI2 KL2 hL2
            have hI2o := hI2
            obtain ⟨okW, hrW, hkW⟩ := hI2; dsimp only at okW hrW hkW ⊢
            refine cseq ?_; intro K69 hK69
            refine cseq ?_; intro K70 hK70
            refine creg ?_
            refine y (ev_move rfl) rfl ?_
            refine y (ev_move rfl) rfl ?_
            refine y (ev_lss rfl rfl) rfl ?_
            refine ynil' (kthn (hK70 _ _ ?_))
            clear hK70
            refine ccond rfl (fun h285 => ?_) (fun h285 => ?_)
            · (try simp only [decide_eq_true_eq, beq_iff_eq, beq_eq_false_iff_ne, decide_eq_decide, decide_eq_false_iff_not, Bool.not_eq_true', Bool.not_eq_false', Bool.not_eq_true, Bool.not_eq_false, Bool.not_not, ne_eq, Option.isNone_some, Option.isSome_some, Option.isNone_none, Option.isSome_none] at h285)
              refine cskip' (kthn (hK69 _ _ ?_))
              clear hK69
              refine cseq ?_; intro K71 hK71
              refine cblock ?_
              refine cseq ?_; intro K72 hK72
              refine creg ?_
              refine y (ev_move rfl) rfl ?_
              refine y (ev_move rfl) rfl ?_
              refine ycall (secReadRow hD1 (by omega) (by omega)) rfl Try.call30 (by repeat first | exact .nil | exact .z | apply Pk.s | apply Tk.cons) rfl ?_
              rintro v L' ⟨au, mu, cu, su, eu, rfl, hu2, rfl⟩
              refine y (ev_move rfl) rfl ?_
              refine y (ev_extract rfl rfl) rfl ?_
              refine y (ev_extract rfl rfl) rfl ?_
              refine y (ev_assign rfl) rfl ?_
              refine y (ev_assign rfl) rfl ?_
              refine ynil' (kthn (hK72 _ _ ?_))
              clear hK72
              refine creg ?_
              refine y (ev_move rfl) rfl ?_
              refine y (ev_move rfl) rfl ?_
              refine ya (ac_bsliceR rfl Try.underlying53 Try.sizeOf27 Try.zeroValue27 rfl rfl rfl rfl ⟨⟨_, _, rfl, (by first | rfl | simp), (by first | decide | simp)⟩, trivial⟩ (by dsimp [fillL, splice, vcells, reps] <;> rfl)) rfl ?_
              rintro v L' ⟨b79, rfl, rfl⟩
              refine ya (ac_append (xs := vsW) (m := k) (k := 1) (us := [.slice au mu cu]) (size := 1) rfl rfl (by repeat first | exact .z | apply Pk.s) Try.underlying53 Try.underlying53 (by intro q hq; cases hq) Try.typeInfo27 rfl rfl rfl ?ok297 ?src297 ?one297 ?big297) rfl ?_
              case ok297 => exact okW
              case src297 => exact src_at (by repeat first | exact .z | apply In.s) rfl rfl
              case one297 => simp [Value.oneCell']
              case big297 => show (k + 1) * 25 ≤ _; omega
              rintro v L' ⟨s80, rfl, ok80, rfl⟩
              refine y (ev_assign rfl) rfl ?_
              refine ynil' (kbn (kthn (hK71 _ _ ?_)))
              clear hK71
              refine creg ?_
              refine y (ev_move rfl) rfl ?_
              refine y (ev_add rfl rfl) rfl ?_
              rw [show IntKind.i64.wrap ((k:Int) + 1) = ((k+1 : Nat) : Int) by rw [wr (by omega) (by omega)]; rfl]
              refine y (ev_assign rfl) rfl ?_
              refine ynil' (kthn ?_)
              exact ksub (fun _ _ h => h) (L' := [su, sgW, dev q D1, svSeg s80 27 (vsW ++ [.slice au mu cu])] ++ R) (by repeat first | exact .refl | exact .nil | exact .z | apply Pk.s | refine Ge.e ?_ | apply Ge.pick | apply Ge.drop) (kre (L' := [su ++ sgW, dev q D1, svSeg s80 27 (vsW ++ [.slice au mu cu])] ++ R) (by simp) (hL2 (k + 1, s80, vsW ++ [.slice au mu cu], su ++ sgW) ⟨ok80, hrW.add (by simpa using okW.len) rfl (fun _ => hu2 hlive), by dsimp only; omega⟩ (by dsimp only; omega) _ _ (by repeat first | exact sub_nil | refine sub_cons rfl ?_ | refine sub_cons' rfl (by simp) ?_) (by repeat first | exact .refl | exact .nil | exact .z | apply Pk.s | refine Ge.e ?_ | apply Ge.pick | apply Ge.drop)))
            · (try simp only [decide_eq_true_eq, beq_iff_eq, beq_eq_false_iff_ne, decide_eq_decide, decide_eq_false_iff_not, Bool.not_eq_true', Bool.not_eq_false', Bool.not_eq_true, Bool.not_eq_false, Bool.not_not, ne_eq, Option.isNone_some, Option.isSome_some, Option.isNone_none, Option.isSome_none] at h285)
              refine cexit (kthx (kthx (kbx (kthn ?_))))
              exact ksub (by repeat first | exact sub_nil | refine sub_cons rfl ?_ | refine sub_cons' rfl (by simp) ?_) (by repeat first | exact .refl | exact .nil | exact .z | apply Pk.s | refine Ge.e ?_ | apply Ge.pick | apply Ge.drop) (hJ2 ⟨k, sW, vsW, sgW⟩ ⟨hI2o, by first | trivial | omega⟩)
        clear hK9
        refine cblock ?_
        refine cloop (A := Nat × Dev) (fun x => [(10, i64 x.1), (9, dp q), (1, lv), (0, i64 n), (2, mv), (3, kv)]) (fun x => [dev q x.2] ++ R) (fun x => x.2.ok ∧ x.2.l.length = n.toNat ∧ x.1 ≤ acts.length ∧ x.1 ≤ 80) (fun x => acts.length - x.1) ((0, Dev.new n.toNat)) ?_ (by repeat first | exact sub_nil | refine sub_cons rfl ?_ | refine sub_cons' rfl (by simp) ?_) (by repeat first | exact .refl | exact .nil | exact .z | apply Pk.s | refine Ge.e ?_ | apply Ge.pick | apply Ge.drop) ?_
        · exact ⟨Dev.new_ok (by omega), by simp [Dev.new], Nat.zero_le _, Nat.zero_le _⟩
        rintro ⟨k, D⟩ hI1 KL1 hL1
        have hI1o := hI1
        obtain ⟨hD, hn1, hk1, hk2⟩ := hI1; dsimp only at hD hn1 hk1 hk2 ⊢
        refine cseq ?_; intro K73 hK73
        refine cseq ?_; intro K74 hK74
        refine creg ?_
        refine y (ev_move rfl) rfl ?_
        refine y (ev_move rfl) rfl ?_
        first
          | refine y (ev_len rfl Try.underlying22) rfl ?_
          | refine y (ev_lenSv rfl Try.underlying22 (by assumption)) rfl ?_
          | refine y (ev_lenV rfl Try.underlying22 (RdV.lenVal (by assumption))) rfl ?_
          | refine y (ev_lenV rfl Try.underlying22 (RdB.lenVal (by assumption))) rfl ?_
        refine y (ev_lss rfl rfl) rfl ?_
        refine y (ev_move rfl) rfl ?_
        refine ysplit 43 rfl (fun h307 => ?_) (fun h307 => ?_)
        · (try simp only [decide_eq_true_eq, beq_iff_eq, beq_eq_false_iff_ne, decide_eq_decide, decide_eq_false_iff_not, Bool.not_eq_true', Bool.not_eq_false', Bool.not_eq_true, Bool.not_eq_false, Bool.not_not, ne_eq, Option.isNone_some, Option.isSome_some, Option.isNone_none, Option.isSome_none] at h307)
          refine yg1 rfl rfl ?_
          refine y (ev_move rfl) rfl ?_
          refine yg1 rfl rfl ?_
          refine y (ev_lss rfl rfl) rfl ?_
          refine y (ev_pick1 rfl rfl) rfl ?_
          refine ynil' (kthn (hK74 _ _ ?_))
          clear hK74
          refine ccond rfl (fun h311 => ?_) (fun h311 => ?_)
          · (try simp only [decide_eq_true_eq, beq_iff_eq, beq_eq_false_iff_ne, decide_eq_decide, decide_eq_false_iff_not, Bool.not_eq_true', Bool.not_eq_false', Bool.not_eq_true, Bool.not_eq_false, Bool.not_not, ne_eq, Option.isNone_some, Option.isSome_some, Option.isNone_none, Option.isSome_none] at h311)
            obtain ⟨a, hka⟩ : ∃ a, acts[k]? = some a := ⟨_, List.getElem?_eq_getElem (by omega)⟩
            have hact := haa a (List.mem_of_getElem? hka)
            refine cskip' (kthn (hK73 _ _ ?_))
            clear hK73
            refine cseq ?_; intro K75 hK75
            refine cblock ?_
            refine cseq ?_; intro K76 hK76
            refine cseq ?_; intro K77 hK77
            refine creg ?_
            refine y (ev_move rfl) rfl ?_
            refine y (ev_move rfl) rfl ?_
            first
              | refine y (ev_ixAddr rfl rfl Try.underlying22 Try.sizeOf30 (by omega) (by omega)) rfl ?_
              | refine y (ev_ixV (by assumption) rfl rfl Try.underlying22 Try.sizeOf30 (by omega) (by omega)) rfl ?_
            refine y (ev_loadNV (us := a.cells) (k * 4) hl (by repeat first | exact .refl | exact .nil | exact .z | apply Pk.s | refine Ge.e ?_ | apply Ge.pick | apply Ge.drop) rfl Try.isAgg30 Try.sizeOf30 (by simp) (actsV_get _ _ _ hka) rfl) rfl ?_
            refine ycall (large ?act316) rfl Try.call21 (by repeat first | exact .nil | exact .z | apply Pk.s | apply Tk.cons) rfl ?_
            case act316 => exact hact.mono (by repeat first | exact .refl | exact .nil | exact .z | apply Pk.s | refine Ge.e ?_ | apply Ge.pick | apply Ge.drop)
            rintro v L' ⟨rfl, rfl⟩
            refine ynil' (kthn (hK77 _ _ ?_))
            clear hK77
            refine ccond rfl (fun h317 => ?_) (fun h317 => ?_)
            · (try simp only [decide_eq_true_eq, beq_iff_eq, beq_eq_false_iff_ne, decide_eq_decide, decide_eq_false_iff_not, Bool.not_eq_true', Bool.not_eq_false', Bool.not_eq_true, Bool.not_eq_false, Bool.not_not, ne_eq, Option.isNone_some, Option.isSome_some, Option.isNone_none, Option.isSome_none] at h317)
              refine cseq ?_; intro K78 hK78
              refine creg ?_
              refine y (ev_assign rfl) rfl ?_
              refine ynil' (kthn (hK78 _ _ ?_))
              clear hK78
              refine cret (kthr (kbr (kthr (kthr (kbr (kthr ?_))))))
              first
                | (exfalso; omega; done)
                | (refine kretv Try.results5 rfl (L1 := R) (by repeat first | exact .refl | exact .nil | exact .z | apply Pk.s | refine Ge.e ?_ | apply Ge.pick | apply Ge.drop) ?_
                   exact ⟨_, ⟨by first | rfl | (exfalso; omega; done) | (exfalso; rcases hsbz with e | e <;> simp_all; done) | (exfalso; simp_all; done) | (simp; omega) | simp_all, rfl⟩, by first | rfl | (exfalso; omega; done) | (exfalso; rcases hsbz with e | e <;> simp_all; done) | (exfalso; simp_all; done) | (simp; omega) | simp_all⟩)
            · (try simp only [decide_eq_true_eq, beq_iff_eq, beq_eq_false_iff_ne, decide_eq_decide, decide_eq_false_iff_not, Bool.not_eq_true', Bool.not_eq_false', Bool.not_eq_true, Bool.not_eq_false, Bool.not_not, ne_eq, Option.isNone_some, Option.isSome_some, Option.isNone_none, Option.isSome_none] at h317)
              refine cskip' (kthn (hK76 _ _ ?_))
              clear hK76
              refine creg ?_
              refine y (ev_move rfl) rfl ?_
              refine y (ev_move rfl) rfl ?_
              refine y (ev_move rfl) rfl ?_
              first
                | refine y (ev_ixAddr rfl rfl Try.underlying22 Try.sizeOf30 (by omega) (by omega)) rfl ?_
                | refine y (ev_ixV (by assumption) rfl rfl Try.underlying22 Try.sizeOf30 (by omega) (by omega)) rfl ?_
              refine y (ev_loadNV (us := a.cells) (k * 4) hl (by repeat first | exact .refl | exact .nil | exact .z | apply Pk.s | refine Ge.e ?_ | apply Ge.pick | apply Ge.drop) rfl Try.isAgg30 Try.sizeOf30 (by simp) (actsV_get _ _ _ hka) rfl) rfl ?_
              refine ycall (play ?ok324 ?act324) rfl Try.call36 (by repeat first | exact .nil | exact .z | apply Pk.s | apply Tk.cons) rfl ?_
              case ok324 => exact hD
              case act324 => exact hact.mono (by repeat first | exact .refl | exact .nil | exact .z | apply Pk.s | refine Ge.e ?_ | apply Ge.pick | apply Ge.drop)
              rintro v L' ⟨rfl, rfl⟩
              refine ynil' (kbn (kthn (hK75 _ _ ?_)))
              clear hK75
              refine creg ?_
              refine y (ev_move rfl) rfl ?_
              refine y (ev_add rfl rfl) rfl ?_
              rw [show IntKind.i64.wrap ((k:Int) + 1) = ((k+1 : Nat) : Int) by rw [wr (by omega) (by omega)]; rfl]
              refine y (ev_assign rfl) rfl ?_
              refine ynil' (kthn ?_)
              exact hL1 ((k + 1, D.play a)) (⟨Dev.play_ok hD hact.int, by rw [play_len]; exact hn1, by dsimp only; omega, by dsimp only; omega⟩) (by dsimp only; omega) _ _ (by repeat first | exact sub_nil | refine sub_cons rfl ?_ | refine sub_cons' rfl (by simp) ?_) (by repeat first | exact .refl | exact .nil | exact .z | apply Pk.s | refine Ge.e ?_ | apply Ge.pick | apply Ge.drop)
          · (try simp only [decide_eq_true_eq, beq_iff_eq, beq_eq_false_iff_ne, decide_eq_decide, decide_eq_false_iff_not, Bool.not_eq_true', Bool.not_eq_false', Bool.not_eq_true, Bool.not_eq_false, Bool.not_not, ne_eq, Option.isNone_some, Option.isSome_some, Option.isNone_none, Option.isSome_none] at h311)
            refine cexit (kthx (kthx (kbx (kthn ?_))))
            exact ksub (by repeat first | exact sub_nil | refine sub_cons rfl ?_ | refine sub_cons' rfl (by simp) ?_) (by repeat first | exact .refl | exact .nil | exact .z | apply Pk.s | refine Ge.e ?_ | apply Ge.pick | apply Ge.drop) (hJ1 ⟨k, D⟩ ⟨hI1o, by first | trivial | omega⟩)
        · (try simp only [decide_eq_true_eq, beq_iff_eq, beq_eq_false_iff_ne, decide_eq_decide, decide_eq_false_iff_not, Bool.not_eq_true', Bool.not_eq_false', Bool.not_eq_true, Bool.not_eq_false, Bool.not_not, ne_eq, Option.isNone_some, Option.isSome_some, Option.isNone_none, Option.isSome_none] at h307)
          refine yg0 rfl rfl rfl rfl ?_
          refine yg0 rfl rfl rfl rfl ?_
          refine y (ev_pick0 rfl rfl) rfl ?_
          refine ynil' (kthn (hK74 _ _ ?_))
          clear hK74
          refine ccond0 rfl ?_
          refine cexit (kthx (kthx (kbx (kthn ?_))))
          exact ksub (by repeat first | exact sub_nil | refine sub_cons rfl ?_ | refine sub_cons' rfl (by simp) ?_) (by repeat first | exact .refl | exact .nil | exact .z | apply Pk.s | refine Ge.e ?_ | apply Ge.pick | apply Ge.drop) (hJ1 ⟨k, D⟩ ⟨hI1o, by first | trivial | omega⟩)
    · skip
      first | (refine ycall (secNewI hn) rfl Try.call15 (by repeat first | exact .nil | exact .z | apply Pk.s | apply Tk.cons) rfl ?_; rintro v L' ⟨q, rfl, rfl⟩) | (refine ycall (secNewNil (by omega)) rfl Try.call15 (by repeat first | exact .nil | exact .z | apply Pk.s | apply Tk.cons) rfl ?_; rintro v L' ⟨rfl, rfl⟩)
      refine y (ev_assign rfl) rfl ?_
      refine ynil' (kthn (hK5 _ _ ?_))
      clear hK5
      refine cseq ?_; intro K79 hK79
      refine cseq ?_; intro K80 hK80
      refine creg ?_
      refine y (ev_move rfl) rfl ?_
      refine y (ev_eqlPnil rfl rfl Try.underlying24) rfl ?_
      refine y (ev_move rfl) rfl ?_
      refine yg0 rfl rfl rfl rfl ?_
      refine yg0 rfl rfl rfl rfl ?_
      refine yg0 rfl rfl rfl rfl ?_
      refine y (ev_pick1 rfl rfl) rfl ?_
      refine ynil' (kthn (hK80 _ _ ?_))
      clear hK80
      refine ccond1 rfl ?_
      refine cseq ?_; intro K81 hK81
      refine creg ?_
      refine y (ev_assign rfl) rfl ?_
      refine ynil' (kthn (hK81 _ _ ?_))
      clear hK81
      refine cret (kthr ?_)
      first
        | (exfalso; omega; done)
        | (refine kretv Try.results5 rfl (L1 := R) (by repeat first | exact .refl | exact .nil | exact .z | apply Pk.s | refine Ge.e ?_ | apply Ge.pick | apply Ge.drop) ?_
           exact ⟨_, ⟨by first | rfl | (exfalso; omega; done) | (exfalso; rcases hsbz with e | e <;> simp_all; done) | (exfalso; simp_all; done) | (simp; omega) | simp_all, rfl⟩, by first | rfl | (exfalso; omega; done) | (exfalso; rcases hsbz with e | e <;> simp_all; done) | (exfalso; simp_all; done) | (simp; omega) | simp_all⟩)
end W
end Go.Proofs
