/- A part of the proof: contracts and plain lemmas, each without conditions beyond those that it names. -/
import Derived.Test.YtnedokioglfipaaS12
import Derived.Test.YtnedokioglfipaaSecI
set_option linter.unusedVariables false
set_option linter.unusedSimpArgs false
set_option linter.constructorNameAsVariable false
namespace Go.Proofs
open Go Go.Sl
namespace W
set_option linter.unusedVariables false
theorem refKeeps [Env] {R : List Seg} {kv : Value} {ks : Keeps} (hkk : RdV R kv ks.length (keepsV ks)) (h6 : ks.length ≤ 600) :
    Con Try.prog 27 [kv] [] R (KSv 86 ks.length 2 (keepsV ks) []) := by
  refine con_enter Try.func27 Try.ntmps27 rfl rfl ?_
  refine cseq ?_; intro K1 hK1
  refine creg ?_
  refine y (ev_assign rfl) rfl ?_
  refine ynil' (kthn (hK1 _ _ ?_))
  clear hK1
  refine cseq ?_; intro K2 hK2
  refine creg ?_
  refine ya (ac_bslice0 Try.underlying40 Try.sizeOf86) rfl ?_
  rintro v L' ⟨b5, rfl, rfl⟩
  refine y (ev_assign rfl) rfl ?_
  refine ynil' (kthn (hK2 _ _ ?_))
  clear hK2
  refine cseq ?_; intro K3 hK3
  refine cseq ?_; intro K4 hK4
  refine creg ?_
  refine y (ev_assign rfl) rfl ?_
  refine ynil' (kthn (hK4 _ _ ?_))
  clear hK4
  have hJ1 : ∀ x : Nat × Sv, ((svOk x.2 x.1 2 (keepsV (ks.take x.1)) ∧ x.1 ≤ ks.length) ∧ (x.1 = ks.length)) → Sk 31 K3 ([(4, i64 x.1), (3, svVal x.2 x.1), (0, kv)]) ([svSeg x.2 86 (keepsV (ks.take x.1))] ++ R) := by
    rintro ⟨k, s3⟩ ⟨hI1, hX1⟩
    refine hK3 _ _ ?_
    obtain ⟨ok3, hk⟩ := hI1; dsimp only at ok3 hk ⊢
    dsimp only at hX1; subst hX1; rw [List.take_length] at ok3 ⊢
    refine cseq ?_; intro K5 hK5
    refine creg ?_
    refine y (ev_move rfl) rfl ?_
    refine y (ev_assign rfl) rfl ?_
    refine ynil' (kthn (hK5 _ _ ?_))
    clear hK5
    refine cret ?_
    first
      | (exfalso; omega; done)
      | (refine kretv Try.results27 rfl (L1 := [svSeg _ _ _] ++ R) (by repeat first | exact .refl | exact .nil | exact .z | apply Pk.s | refine Ge.e ?_ | apply Ge.pick | apply Ge.drop) ?_
         exact ⟨_, ⟨s3, rfl, ok3, rfl⟩, rfl⟩)
  clear hK3
  refine cblock ?_
  refine cloop (A := Nat × Sv) (fun x => [(4, i64 x.1), (3, svVal x.2 x.1), (0, kv)]) (fun x => [svSeg x.2 86 (keepsV (ks.take x.1))] ++ R) (fun x => svOk x.2 x.1 2 (keepsV (ks.take x.1)) ∧ x.1 ≤ ks.length) (fun x => ks.length - x.1) ((0, some (b5, 0, []))) ?_ (by repeat first | exact sub_nil | refine sub_cons rfl ?_ | refine sub_cons' rfl (by simp) ?_) (by repeat first | exact .refl | exact .nil | exact .z | apply Pk.s | refine Ge.e ?_ | apply Ge.pick | apply Ge.drop) ?_
  · exact ⟨⟨Nat.le_refl _, Nat.zero_le _, rfl, rfl⟩, Nat.zero_le _⟩
  rintro ⟨k, s3⟩ hI1 KL1 hL1
  have hI1o := hI1
  obtain ⟨ok3, hk⟩ := hI1; dsimp only at ok3 hk ⊢
  refine cseq ?_; intro K6 hK6
  refine cseq ?_; intro K7 hK7
  refine creg ?_
  refine y (ev_move rfl) rfl ?_
  refine y (ev_move rfl) rfl ?_
  first
    | refine y (ev_len rfl Try.underlying28) rfl ?_
    | refine y (ev_lenSv rfl Try.underlying28 (by assumption)) rfl ?_
    | refine y (ev_lenV rfl Try.underlying28 (RdV.lenVal (by assumption))) rfl ?_
    | refine y (ev_lenV rfl Try.underlying28 (RdB.lenVal (by assumption))) rfl ?_
  refine y (ev_lss rfl rfl) rfl ?_
  refine y (ev_move rfl) rfl ?_
  refine ysplit 10 rfl (fun h12 => ?_) (fun h12 => ?_)
  · (try simp only [decide_eq_true_eq, beq_iff_eq, beq_eq_false_iff_ne, decide_eq_decide, decide_eq_false_iff_not, Bool.not_eq_true', Bool.not_eq_false', Bool.not_eq_true, Bool.not_eq_false, Bool.not_not, ne_eq, Option.isNone_some, Option.isSome_some, Option.isNone_none, Option.isSome_none] at h12)
    refine yg1 rfl rfl ?_
    refine y (ev_move rfl) rfl ?_
    refine yg1 rfl rfl ?_
    refine y (ev_lss rfl rfl) rfl ?_
    refine y (ev_pick1 rfl rfl) rfl ?_
    refine ynil' (kthn (hK7 _ _ ?_))
    clear hK7
    refine ccond rfl (fun h16 => ?_) (fun h16 => ?_)
    · (try simp only [decide_eq_true_eq, beq_iff_eq, beq_eq_false_iff_ne, decide_eq_decide, decide_eq_false_iff_not, Bool.not_eq_true', Bool.not_eq_false', Bool.not_eq_true, Bool.not_eq_false, Bool.not_not, ne_eq, Option.isNone_some, Option.isSome_some, Option.isNone_none, Option.isSome_none] at h16)
      obtain ⟨yy, hy⟩ : ∃ yy, ks[k]? = some yy := ⟨_, List.getElem?_eq_getElem (by omega)⟩
      obtain ⟨hy1, hy2⟩ := keepsV_get ks _ yy hy
      refine cskip' (kthn (hK6 _ _ ?_))
      clear hK6
      refine cseq ?_; intro K8 hK8
      refine cblock ?_
      refine cdraw 13 [(0, true), (1, true), (2, true), (3, true), (4, true), (5, true), (6, true), (7, true), (8, true), (9, true), (10, true), (11, true), (12, false)] (_) Try.mixed (by kernel_rfl) .refl ?_
      refine hr rfl (ev_move rfl) rfl ?_
      refine hr rfl (ev_move rfl) rfl ?_
      refine hr rfl (ev_move rfl) rfl ?_
      first
        | refine hr rfl (ev_ixAddr rfl rfl Try.underlying28 Try.sizeOf76 (by omega) (by omega)) rfl ?_
        | refine hr rfl (ev_ixV (by assumption) rfl rfl Try.underlying28 Try.sizeOf76 (by omega) (by omega)) rfl ?_
      refine hr rfl (ev_fieldAddr 0 rfl Try.underlying76 rfl Try.sizeOf3) rfl ?_
      refine hr rfl (ev_loadV (k * 2) hkk (by repeat first | exact .refl | exact .nil | exact .z | apply Pk.s | refine Ge.e ?_ | apply Ge.pick | apply Ge.drop) rfl Try.isAgg3 (by simp) hy1) rfl ?_
      refine hr rfl (ev_move rfl) rfl ?_
      refine hr rfl (ev_move rfl) rfl ?_
      first
        | refine hr rfl (ev_ixAddr rfl rfl Try.underlying28 Try.sizeOf76 (by omega) (by omega)) rfl ?_
        | refine hr rfl (ev_ixV (by assumption) rfl rfl Try.underlying28 Try.sizeOf76 (by omega) (by omega)) rfl ?_
      refine hr rfl (ev_fieldAddr 1 rfl Try.underlying76 rfl Try.sizeOf3) rfl ?_
      refine hr rfl (ev_loadV (k * 2 + 1) hkk (by repeat first | exact .refl | exact .nil | exact .z | apply Pk.s | refine Ge.e ?_ | apply Ge.pick | apply Ge.drop) rfl Try.isAgg3 (by simp; omega) hy2) rfl ?_
      refine hr rfl (ev_build (zs := _) rfl Try.underlying86 Try.zeroValue86 rfl (.cons Try.sizeOf3 (.cons Try.sizeOf3 .nil)) ⟨⟨_, _, rfl, (by first | rfl | simp), (by first | decide | simp)⟩, ⟨⟨_, _, rfl, (by first | rfl | simp), (by first | decide | simp)⟩, trivial⟩⟩ (by dsimp [fillL, splice, vcells] <;> rfl)) rfl ?_
      refine ha rfl (ac_bsliceR rfl Try.underlying40 Try.sizeOf86 Try.zeroValue86 rfl rfl rfl rfl ⟨⟨_, _, rfl, (by first | rfl | simp), (by first | decide | simp)⟩, trivial⟩ (by dsimp [fillL, splice, vcells, reps] <;> rfl)) rfl ?_
      rintro v L' ⟨b28, rfl, rfl⟩; refine ⟨(by repeat first | exact .refl | exact .nil | exact .z | apply Pk.s | refine Ge.e ?_ | apply Ge.pick | apply Ge.drop), ?_⟩
      refine hnil ?_
      refine ya (ac_append (xs := keepsV (ks.take k)) (m := k) (k := 1) (us := [i64 yy.1, i64 yy.2]) (size := 2) rfl rfl (by repeat first | exact .z | apply Pk.s) Try.underlying40 Try.underlying40 (by intro q hq; cases hq) Try.typeInfo86 rfl rfl rfl ?ok30 ?src30 ?one30 ?big30) rfl ?_
      case ok30 => exact ok3
      case src30 => exact src_at (by repeat first | exact .z | apply In.s) rfl rfl
      case one30 => simp [Value.oneCell']
      case big30 => show (k + 1) * 17 ≤ _; omega
      rintro v L' ⟨s29, rfl, ok29, rfl⟩
      rw [← keepsV_succ hy] at ok29 ⊢
      refine y (ev_assign rfl) rfl ?_
      refine hnoP' (kbn (kthn (hK8 _ _ ?_)))
      clear hK8
      refine creg ?_
      refine y (ev_move rfl) rfl ?_
      refine y (ev_add rfl rfl) rfl ?_
      rw [show IntKind.i64.wrap ((k:Int) + 1) = ((k+1 : Nat) : Int) by rw [wr (by omega) (by omega)]; rfl]
      refine y (ev_assign rfl) rfl ?_
      refine ynil' (kthn ?_)
      exact hL1 ((k + 1, s29)) (⟨ok29, by dsimp only; omega⟩) (by dsimp only; omega) _ _ (by repeat first | exact sub_nil | refine sub_cons rfl ?_ | refine sub_cons' rfl (by simp) ?_) (by repeat first | exact .refl | exact .nil | exact .z | apply Pk.s | refine Ge.e ?_ | apply Ge.pick | apply Ge.drop)
    · (try simp only [decide_eq_true_eq, beq_iff_eq, beq_eq_false_iff_ne, decide_eq_decide, decide_eq_false_iff_not, Bool.not_eq_true', Bool.not_eq_false', Bool.not_eq_true, Bool.not_eq_false, Bool.not_not, ne_eq, Option.isNone_some, Option.isSome_some, Option.isNone_none, Option.isSome_none] at h16)
      refine cexit (kthx (kthx (kbx (kthn ?_))))
      exact ksub (by repeat first | exact sub_nil | refine sub_cons rfl ?_ | refine sub_cons' rfl (by simp) ?_) (by repeat first | exact .refl | exact .nil | exact .z | apply Pk.s | refine Ge.e ?_ | apply Ge.pick | apply Ge.drop) (hJ1 ⟨k, s3⟩ ⟨hI1o, by dsimp only; omega⟩)
  · (try simp only [decide_eq_true_eq, beq_iff_eq, beq_eq_false_iff_ne, decide_eq_decide, decide_eq_false_iff_not, Bool.not_eq_true', Bool.not_eq_false', Bool.not_eq_true, Bool.not_eq_false, Bool.not_not, ne_eq, Option.isNone_some, Option.isSome_some, Option.isNone_none, Option.isSome_none] at h12)
    refine yg0 rfl rfl rfl rfl ?_
    refine yg0 rfl rfl rfl rfl ?_
    refine y (ev_pick0 rfl rfl) rfl ?_
    refine ynil' (kthn (hK7 _ _ ?_))
    clear hK7
    refine ccond0 rfl ?_
    refine cexit (kthx (kthx (kbx (kthn ?_))))
    exact ksub (by repeat first | exact sub_nil | refine sub_cons rfl ?_ | refine sub_cons' rfl (by simp) ?_) (by repeat first | exact .refl | exact .nil | exact .z | apply Pk.s | refine Ge.e ?_ | apply Ge.pick | apply Ge.drop) (hJ1 ⟨k, s3⟩ ⟨hI1o, by dsimp only; omega⟩)
theorem refInts [Env] {R : List Seg} {av bv : Value} {us vs : List Int} (ha : RdV R av us.length (intsV us)) (hb : RdV R bv vs.length (intsV vs)) (h6 : us.length ≤ 100000) :
    Con Try.prog 32 [av, bv] [] R (Is (.bool (decide (us = vs))) []) := by
  refine con_enter Try.func32 Try.ntmps32 rfl rfl ?_
  refine cseq ?_; intro K1 hK1
  refine creg ?_
  refine y (ev_assign rfl) rfl ?_
  refine ynil' (kthn (hK1 _ _ ?_))
  clear hK1
  refine cseq ?_; intro K2 hK2
  refine cseq ?_; intro K3 hK3
  refine creg ?_
  refine y (ev_move rfl) rfl ?_
  first
    | refine y (ev_len rfl Try.underlying42) rfl ?_
    | refine y (ev_lenSv rfl Try.underlying42 (by assumption)) rfl ?_
    | refine y (ev_lenV rfl Try.underlying42 (RdV.lenVal (by assumption))) rfl ?_
    | refine y (ev_lenV rfl Try.underlying42 (RdB.lenVal (by assumption))) rfl ?_
  refine y (ev_move rfl) rfl ?_
  first
    | refine y (ev_len rfl Try.underlying42) rfl ?_
    | refine y (ev_lenSv rfl Try.underlying42 (by assumption)) rfl ?_
    | refine y (ev_lenV rfl Try.underlying42 (RdV.lenVal (by assumption))) rfl ?_
    | refine y (ev_lenV rfl Try.underlying42 (RdB.lenVal (by assumption))) rfl ?_
  refine y (ev_neq rfl rfl) rfl ?_
  refine ynil' (kthn (hK3 _ _ ?_))
  clear hK3
  refine ccond rfl (fun h42 => ?_) (fun h42 => ?_)
  · (try simp only [decide_eq_true_eq, beq_iff_eq, beq_eq_false_iff_ne, decide_eq_decide, decide_eq_false_iff_not, Bool.not_eq_true', Bool.not_eq_false', Bool.not_eq_true, Bool.not_eq_false, Bool.not_not, ne_eq, Option.isNone_some, Option.isSome_some, Option.isNone_none, Option.isSome_none] at h42)
    have hne : us ≠ vs := fun e => by subst e; exact absurd rfl h42
    refine cseq ?_; intro K4 hK4
    refine creg ?_
    refine y (ev_assign rfl) rfl ?_
    refine ynil' (kthn (hK4 _ _ ?_))
    clear hK4
    refine cret (kthr ?_)
    first
      | (exfalso; omega; done)
      | (refine kretv Try.results32 rfl (L1 := R) (by repeat first | exact .refl | exact .nil | exact .z | apply Pk.s | refine Ge.e ?_ | apply Ge.pick | apply Ge.drop) ?_
         exact ⟨_, ⟨by first | rfl | (simp [*]; done) | simp_all, rfl⟩, by first | rfl | (simp [*]; done) | simp_all⟩)
  · (try simp only [decide_eq_true_eq, beq_iff_eq, beq_eq_false_iff_ne, decide_eq_decide, decide_eq_false_iff_not, Bool.not_eq_true', Bool.not_eq_false', Bool.not_eq_true, Bool.not_eq_false, Bool.not_not, ne_eq, Option.isNone_some, Option.isSome_some, Option.isNone_none, Option.isSome_none] at h42)
    have hlen : us.length = vs.length := by omega
    refine cskip' (kthn (hK2 _ _ ?_))
    clear hK2
    refine cseq ?_; intro K5 hK5
    refine cseq ?_; intro K6 hK6
    refine creg ?_
    refine y (ev_move rfl) rfl ?_
    first
      | refine y (ev_len rfl Try.underlying42) rfl ?_
      | refine y (ev_lenSv rfl Try.underlying42 (by assumption)) rfl ?_
      | refine y (ev_lenV rfl Try.underlying42 (RdV.lenVal (by assumption))) rfl ?_
      | refine y (ev_lenV rfl Try.underlying42 (RdB.lenVal (by assumption))) rfl ?_
    refine y (ev_move rfl) rfl ?_
    refine ynil' (kthn (hK6 _ _ ?_))
    clear hK6
    have hJ1 : ∀ x : Nat, ((x ≤ us.length ∧ us.take x = vs.take x) ∧ (x = us.length)) → Sk 26 K5 ([(13, i64 x), (12, i64 us.length), (0, av), (1, bv)]) (R) := by
      rintro k ⟨hI1, hX1⟩
      refine hK5 _ _ ?_
      obtain ⟨hk, htk⟩ := hI1
      have heq : us = vs := by rw [hX1, List.take_length, hlen, List.take_length] at htk; exact htk
      refine cseq ?_; intro K7 hK7
      refine creg ?_
      refine y (ev_assign rfl) rfl ?_
      refine ynil' (kthn (hK7 _ _ ?_))
      clear hK7
      refine cret ?_
      first
        | (exfalso; omega; done)
        | (refine kretv Try.results32 rfl (L1 := R) (by repeat first | exact .refl | exact .nil | exact .z | apply Pk.s | refine Ge.e ?_ | apply Ge.pick | apply Ge.drop) ?_
           exact ⟨_, ⟨by first | rfl | (simp [*]; done) | simp_all, rfl⟩, by first | rfl | (simp [*]; done) | simp_all⟩)
    clear hK5
    refine cblock ?_
    refine cloop (A := Nat) (fun x => [(13, i64 x), (12, i64 us.length), (0, av), (1, bv)]) (fun x => R) (fun x => x ≤ us.length ∧ us.take x = vs.take x) (fun x => us.length - x) (0) ?_ (by repeat first | exact sub_nil | refine sub_cons rfl ?_ | refine sub_cons' rfl (by simp) ?_) (by repeat first | exact .refl | exact .nil | exact .z | apply Pk.s | refine Ge.e ?_ | apply Ge.pick | apply Ge.drop) ?_
    · exact ⟨Nat.zero_le _, by simp⟩
    rintro k hI1 KL1 hL1
    have hI1o := hI1
    obtain ⟨hk, htk⟩ := hI1
    refine cseq ?_; intro K8 hK8
    refine creg ?_
    refine y (ev_lss rfl rfl) rfl ?_
    refine ynil' (kthn (hK8 _ _ ?_))
    clear hK8
    refine cseq ?_; intro K9 hK9
    refine ccond rfl (fun h49 => ?_) (fun h49 => ?_)
    · (try simp only [decide_eq_true_eq, beq_iff_eq, beq_eq_false_iff_ne, decide_eq_decide, decide_eq_false_iff_not, Bool.not_eq_true', Bool.not_eq_false', Bool.not_eq_true, Bool.not_eq_false, Bool.not_not, ne_eq, Option.isNone_some, Option.isSome_some, Option.isNone_none, Option.isSome_none] at h49)
      obtain ⟨p, hp⟩ : ∃ p, us[k]? = some p := ⟨_, List.getElem?_eq_getElem (by omega)⟩
      obtain ⟨q, hq⟩ : ∃ q, vs[k]? = some q := ⟨_, List.getElem?_eq_getElem (by omega)⟩
      refine cskip' (kthn (hK9 _ _ ?_))
      clear hK9
      refine cseq ?_; intro K10 hK10
      refine cblock ?_
      refine cseq ?_; intro K11 hK11
      refine creg ?_
      refine y (ev_move rfl) rfl ?_
      refine y (ev_assign rfl) rfl ?_
      refine ynil' (kthn (hK11 _ _ ?_))
      clear hK11
      refine cseq ?_; intro K12 hK12
      refine cdraw 8 [(0, true), (1, true), (2, true), (3, true), (4, true), (5, true), (6, true), (7, true)] (_) Try.mixed (by kernel_rfl) .refl ?_
      refine hr rfl (ev_move rfl) rfl ?_
      refine hr rfl (ev_move rfl) rfl ?_
      first
        | refine hr rfl (ev_ixAddr rfl rfl Try.underlying42 Try.sizeOf3 (by omega) (by omega)) rfl ?_
        | refine hr rfl (ev_ixV (by assumption) rfl rfl Try.underlying42 Try.sizeOf3 (by omega) (by omega)) rfl ?_
      refine hr rfl (ev_loadV k ha (by repeat first | exact .refl | exact .nil | exact .z | apply Pk.s | refine Ge.e ?_ | apply Ge.pick | apply Ge.drop) rfl Try.isAgg3 (by simp) (intsV_get hp)) rfl ?_
      refine hr rfl (ev_move rfl) rfl ?_
      refine hr rfl (ev_move rfl) rfl ?_
      first
        | refine hr rfl (ev_ixAddr rfl rfl Try.underlying42 Try.sizeOf3 (by omega) (by omega)) rfl ?_
        | refine hr rfl (ev_ixV (by assumption) rfl rfl Try.underlying42 Try.sizeOf3 (by omega) (by omega)) rfl ?_
      refine hr rfl (ev_loadV k hb (by repeat first | exact .refl | exact .nil | exact .z | apply Pk.s | refine Ge.e ?_ | apply Ge.pick | apply Ge.drop) rfl Try.isAgg3 (by simp) (intsV_get hq)) rfl ?_
      refine hnil ?_
      refine y (ev_neq rfl rfl) rfl ?_
      refine hnoP' (kthn (hK12 _ _ ?_))
      clear hK12
      refine ccond rfl (fun h61 => ?_) (fun h61 => ?_)
      · (try simp only [decide_eq_true_eq, beq_iff_eq, beq_eq_false_iff_ne, decide_eq_decide, decide_eq_false_iff_not, Bool.not_eq_true', Bool.not_eq_false', Bool.not_eq_true, Bool.not_eq_false, Bool.not_not, ne_eq, Option.isNone_some, Option.isSome_some, Option.isNone_none, Option.isSome_none] at h61)
        have hne : us ≠ vs := fun e => by subst e; rw [hp] at hq; cases hq; exact absurd rfl h61
        refine cseq ?_; intro K13 hK13
        refine creg ?_
        refine y (ev_assign rfl) rfl ?_
        refine ynil' (kthn (hK13 _ _ ?_))
        clear hK13
        refine cret (kbr (kthr (kthr (kbr (kthr ?_)))))
        first
          | (exfalso; omega; done)
          | (refine kretv Try.results32 rfl (L1 := R) (by repeat first | exact .refl | exact .nil | exact .z | apply Pk.s | refine Ge.e ?_ | apply Ge.pick | apply Ge.drop) ?_
             exact ⟨_, ⟨by first | rfl | (simp [*]; done) | simp_all, rfl⟩, by first | rfl | (simp [*]; done) | simp_all⟩)
      · (try simp only [decide_eq_true_eq, beq_iff_eq, beq_eq_false_iff_ne, decide_eq_decide, decide_eq_false_iff_not, Bool.not_eq_true', Bool.not_eq_false', Bool.not_eq_true, Bool.not_eq_false, Bool.not_not, ne_eq, Option.isNone_some, Option.isSome_some, Option.isNone_none, Option.isSome_none] at h61)
        have hpq : p = q := by first | exact h61 | omega
        refine cskip' (kbn (kthn (hK10 _ _ ?_)))
        clear hK10
        refine creg ?_
        refine y (ev_add rfl rfl) rfl ?_
        rw [show IntKind.i64.wrap ((k:Int) + 1) = ((k+1 : Nat) : Int) by rw [wr (by omega) (by omega)]; rfl]
        refine y (ev_move rfl) rfl ?_
        refine ynil' (kthn ?_)
        exact hL1 (k + 1) (⟨by omega, by rw [List.take_add_one, List.take_add_one, htk, hp, hq, hpq]⟩) (by omega) _ _ (by repeat first | exact sub_nil | refine sub_cons rfl ?_ | refine sub_cons' rfl (by simp) ?_) (by repeat first | exact .refl | exact .nil | exact .z | apply Pk.s | refine Ge.e ?_ | apply Ge.pick | apply Ge.drop)
    · (try simp only [decide_eq_true_eq, beq_iff_eq, beq_eq_false_iff_ne, decide_eq_decide, decide_eq_false_iff_not, Bool.not_eq_true', Bool.not_eq_false', Bool.not_eq_true, Bool.not_eq_false, Bool.not_not, ne_eq, Option.isNone_some, Option.isSome_some, Option.isNone_none, Option.isSome_none] at h49)
      refine cexit (kthx (kthx (kbx (kthn ?_))))
      exact ksub (by repeat first | exact sub_nil | refine sub_cons rfl ?_ | refine sub_cons' rfl (by simp) ?_) (by repeat first | exact .refl | exact .nil | exact .z | apply Pk.s | refine Ge.e ?_ | apply Ge.pick | apply Ge.drop) (hJ1 k ⟨hI1o, by first | trivial | omega⟩)
end W
end Go.Proofs
