/- A part of the proof: contracts and plain lemmas, each without conditions beyond those that it names. -/
import Derived.Test.YtnedokioglfipaaS13
set_option linter.unusedVariables false
set_option linter.unusedSimpArgs false
set_option linter.constructorNameAsVariable false
namespace Go.Proofs
open Go Go.Sl
namespace W
set_option linter.unusedVariables false
theorem secReadU [Env] {R : List Seg} {q : Q3} {D : Dev} {i : Int} (hD : D.ok) : Con Try.prog 30 [dp q, i64 i] [dev q D] R
    (fun v L' => ∃ s, v = .tuple #[svVal s (D.rdB i).length, i64 (D.has i)] ∧ svOk s (D.rdB i).length 1 (bytesV (D.rdB i)) ∧ L' = [svSeg s 5 (bytesV (D.rdB i)), dev q D]) := by
  refine (secRead hD).via (List.Perm.refl _) ?_
  unfold Dev.rdB
  rintro v L (⟨h1, rfl, rfl⟩ | ⟨h1, s, rfl, h2, rfl⟩)
  · exact ⟨_, ⟨none, by rw [if_neg h1]; rfl, by rw [if_neg h1]; exact ⟨rfl, rfl⟩, rfl⟩, by simp [svSeg]⟩
  · refine ⟨_, ⟨s, by rw [if_pos h1, sec_length hD, h1], ?_, rfl⟩, by rw [if_pos h1]⟩
    rw [if_pos h1, sec_length hD]; exact h2
theorem refReadU [Env] {R : List Seg} {p la : Nat} {D : RDev} {i : Int} (hD : D.ok) (hl : D.has i = 0 → (D.sec i).length = 144) : Con Try.prog 31 [ptr p, i64 i] [rP p la D, rL la D] R
    (fun v L' => ∃ s, v = .tuple #[svVal s (D.rdB i).length, i64 (D.has i)] ∧ svOk s (D.rdB i).length 1 (bytesV (D.rdB i)) ∧ L' = [svSeg s 5 (bytesV (D.rdB i)), rP p la D, rL la D]) := by
  refine (refRead hD).via (List.Perm.refl _) ?_
  unfold RDev.rdB
  rintro v L (⟨h1, rfl, rfl⟩ | ⟨h1, s, rfl, h2, rfl⟩)
  · exact ⟨_, ⟨none, by rw [if_neg h1]; rfl, by rw [if_neg h1]; exact ⟨rfl, rfl⟩, rfl⟩, by simp [svSeg]⟩
  · refine ⟨_, ⟨s, by rw [if_pos h1, hl h1, h1], ?_, rfl⟩, by rw [if_pos h1]⟩
    rw [if_pos h1, hl h1]; exact h2
theorem refWriteB [Env] {R : List Seg} {p la : Nat} {D : RDev} {i : Int} {bv : Value} {bs : Bytes} (hD : D.ok) (hb : RdB R bv bs) :
    Con Try.prog 22 [ptr p, i64 i, bv] [rP p la D, rL la D] R (Is (i64 (D.write i bs).1) [rP p la (D.write i bs).2, rL la (D.write i bs).2]) := by
  intro w hh
  exact refWriteV hD (rdV_of_rdB hb ((show Ge ([rP p la D, rL la D] ++ R) R from .drop (.drop .refl)).has hh)) w hh
theorem refNewI [Env] {R : List Seg} {n : Int} (hn : 0 ≤ n ∧ n ≤ 512) : Con Try.prog 20 [i64 n] [] R (fun v L' => ∃ p la, v = ptr p ∧ L' = [rP p la (RDev.new n.toNat), rL la (RDev.new n.toNat)]) := by
  have h := refNew (R := R) (n := n.toNat) (by omega)
  rw [show ((n.toNat : Nat) : Int) = n by omega] at h
  exact h
theorem lawDoes [Env] {R : List Seg} {n i : Int} {lv : Value} {acts : List ActM} (hl : RdV R lv acts.length (actsV acts)) (haa : ∀ a ∈ acts, a.ok R) :
    Con Try.prog 4 [i64 n, lv, i64 i] [] R (Is (.bool true) []) := by
  refine con_enter Try.func4 Try.ntmps4 rfl rfl ?_
  refine cseq ?_; intro K1 hK1
  refine creg ?_
  refine y (ev_assign rfl) rfl ?_
  refine ynil' (kthn (hK1 _ _ ?_))
  clear hK1
  refine cseq ?_; intro K2 hK2
  refine cseq ?_; intro K3 hK3
  refine creg ?_
  refine ycall (awake) rfl Try.call14 (by repeat first | exact .nil | exact .z | apply Pk.s | apply Tk.cons) rfl ?_
  rintro v L' ⟨rfl, rfl⟩
  refine y (ev_not rfl) rfl ?_
  refine ynil' (kthn (hK3 _ _ ?_))
  clear hK3
  refine ccond rfl (fun h4 => ?_) (fun h4 => ?_)
  · (try simp only [decide_eq_true_eq, beq_iff_eq, beq_eq_false_iff_ne, decide_eq_decide, decide_eq_false_iff_not, Bool.not_eq_true', Bool.not_eq_false', Bool.not_eq_true, Bool.not_eq_false, Bool.not_not, ne_eq, Option.isNone_some, Option.isSome_some, Option.isNone_none, Option.isSome_none] at h4)
    refine cseq ?_; intro K4 hK4
    refine creg ?_
    refine y (ev_assign rfl) rfl ?_
    refine ynil' (kthn (hK4 _ _ ?_))
    clear hK4
    refine cret (kthr ?_)
    first
      | (exfalso; omega; done)
      | (refine kretv Try.results4 rfl (L1 := R) (by repeat first | exact .refl | exact .nil | exact .z | apply Pk.s | refine Ge.e ?_ | apply Ge.pick | apply Ge.drop) ?_
         exact ⟨_, ⟨by first | rfl | (exfalso; omega; done) | (exfalso; simp_all; done) | (simp; omega) | simp_all, rfl⟩, by first | rfl | (exfalso; omega; done) | (exfalso; simp_all; done) | (simp; omega) | simp_all⟩)
  · (try simp only [decide_eq_true_eq, beq_iff_eq, beq_eq_false_iff_ne, decide_eq_decide, decide_eq_false_iff_not, Bool.not_eq_true', Bool.not_eq_false', Bool.not_eq_true, Bool.not_eq_false, Bool.not_not, ne_eq, Option.isNone_some, Option.isSome_some, Option.isNone_none, Option.isSome_none] at h4)
    refine cskip' (kthn (hK2 _ _ ?_))
    clear hK2
    refine cseq ?_; intro K5 hK5
    refine creg ?_
    refine y (ev_move rfl) rfl ?_
    by_cases hn : 0 ≤ n ∧ n ≤ 512
    · skip
      first | (refine ycall (secNewI hn) rfl Try.call15 (by repeat first | exact .nil | exact .z | apply Pk.s | apply Tk.cons) rfl ?_; rintro v L' ⟨q, rfl, rfl⟩) | (refine ycall (secNewNil (by omega)) rfl Try.call15 (by repeat first | exact .nil | exact .z | apply Pk.s | apply Tk.cons) rfl ?_; rintro v L' ⟨rfl, rfl⟩)
      refine y (ev_assign rfl) rfl ?_
      refine ynil' (kthn (hK5 _ _ ?_))
      clear hK5
      refine cseq ?_; intro K6 hK6
      refine creg ?_
      refine y (ev_move rfl) rfl ?_
      first | (refine ycall (refNewI hn) rfl Try.call20 (by repeat first | exact .nil | exact .z | apply Pk.s | apply Tk.cons) rfl ?_; rintro v L' ⟨p, la, rfl, rfl⟩) | (refine ycall (refNewNil (by omega)) rfl Try.call20 (by repeat first | exact .nil | exact .z | apply Pk.s | apply Tk.cons) rfl ?_; rintro v L' ⟨rfl, rfl⟩)
      refine y (ev_assign rfl) rfl ?_
      refine ynil' (kthn (hK6 _ _ ?_))
      clear hK6
      refine cseq ?_; intro K7 hK7
      refine cseq ?_; intro K8 hK8
      refine creg ?_
      refine y (ev_move rfl) rfl ?_
      refine y (ev_eqlPnil rfl rfl Try.underlying24) rfl ?_
      refine y (ev_move rfl) rfl ?_
      refine yg1 rfl rfl ?_
      refine y (ev_move rfl) rfl ?_
      refine yg1 rfl rfl ?_
      refine y (ev_eqlPnil rfl rfl Try.underlying35) rfl ?_
      refine y (ev_pick0 rfl rfl) rfl ?_
      refine ynil' (kthn (hK8 _ _ ?_))
      clear hK8
      refine ccond0 rfl ?_
      refine cskip' (kthn (hK7 _ _ ?_))
      clear hK7
      refine cseq ?_; intro K9 hK9
      refine cseq ?_; intro K10 hK10
      refine creg ?_
      refine y (ev_assign rfl) rfl ?_
      refine ynil' (kthn (hK10 _ _ ?_))
      clear hK10
      have hJ1 : ∀ x : Nat × Dev × RDev × Nat, ((Rel x.2.1 x.2.2.1 ∧ x.2.1.l.length = n.toNat ∧ x.1 ≤ acts.length ∧ x.1 ≤ 80) ∧ (True)) → Sk 190 K9 ([(9, i64 x.1), (8, ptr p), (7, dp q), (0, i64 n), (1, lv), (2, i64 i)]) ([dev q x.2.1, rP p x.2.2.2 x.2.2.1, rL x.2.2.2 x.2.2.1] ++ R) := by
        rintro ⟨k, D, E, la⟩ ⟨hI1, hX1⟩
        refine hK9 _ _ ?_
        obtain ⟨hrel, hn1, hk1, hk2⟩ := hI1; dsimp only at hrel hn1 hk1 hk2 ⊢
        refine cseq ?_; intro K11 hK11
        refine creg ?_
        refine y (ev_assign rfl) rfl ?_
        refine ynil' (kthn (hK11 _ _ ?_))
        clear hK11
        refine cret ?_
        first
          | (exfalso; omega; done)
          | (refine kretv Try.results4 rfl (L1 := R) (by repeat first | exact .refl | exact .nil | exact .z | apply Pk.s | refine Ge.e ?_ | apply Ge.pick | apply Ge.drop) ?_
             exact ⟨_, ⟨by first | rfl | (exfalso; omega; done) | (exfalso; simp_all; done) | (simp; omega) | simp_all, rfl⟩, by first | rfl | (exfalso; omega; done) | (exfalso; simp_all; done) | (simp; omega) | simp_all⟩)
      clear hK9
      refine cblock ?_
      refine cloop (A := Nat × Dev × RDev × Nat) (fun x => [(9, i64 x.1), (8, ptr p), (7, dp q), (0, i64 n), (1, lv), (2, i64 i)]) (fun x => [dev q x.2.1, rP p x.2.2.2 x.2.2.1, rL x.2.2.2 x.2.2.1] ++ R) (fun x => Rel x.2.1 x.2.2.1 ∧ x.2.1.l.length = n.toNat ∧ x.1 ≤ acts.length ∧ x.1 ≤ 80) (fun x => acts.length - x.1) ((0, Dev.new n.toNat, RDev.new n.toNat, la)) ?_ (by repeat first | exact sub_nil | refine sub_cons rfl ?_ | refine sub_cons' rfl (by simp) ?_) (by repeat first | exact .refl | exact .nil | exact .z | apply Pk.s | refine Ge.e ?_ | apply Ge.pick | apply Ge.drop) ?_
      · exact ⟨Rel.new (by omega), by simp [Dev.new], Nat.zero_le _, Nat.zero_le _⟩
      rintro ⟨k, D, E, la⟩ hI1 KL1 hL1
      have hI1o := hI1
      obtain ⟨hrel, hn1, hk1, hk2⟩ := hI1; dsimp only at hrel hn1 hk1 hk2 ⊢
      refine cseq ?_; intro K12 hK12
      refine cseq ?_; intro K13 hK13
      refine creg ?_
      refine y (ev_move rfl) rfl ?_
      refine y (ev_move rfl) rfl ?_
      first
        | refine y (ev_len rfl Try.underlying22) rfl ?_
        | refine y (ev_lenSv rfl Try.underlying22 (by assumption)) rfl ?_
        | refine y (ev_lenV rfl Try.underlying22 (RdV.lenVal (by assumption))) rfl ?_
        | refine y (ev_lenV rfl Try.underlying22 (RdB.lenVal (by assumption))) rfl ?_
      refine y (ev_lss rfl rfl) rfl ?_
      refine y (ev_move rfl) rfl ?_
      refine ysplit 44 rfl (fun h25 => ?_) (fun h25 => ?_)
      · (try simp only [decide_eq_true_eq, beq_iff_eq, beq_eq_false_iff_ne, decide_eq_decide, decide_eq_false_iff_not, Bool.not_eq_true', Bool.not_eq_false', Bool.not_eq_true, Bool.not_eq_false, Bool.not_not, ne_eq, Option.isNone_some, Option.isSome_some, Option.isNone_none, Option.isSome_none] at h25)
        refine yg1 rfl rfl ?_
        refine y (ev_move rfl) rfl ?_
        refine yg1 rfl rfl ?_
        refine y (ev_lss rfl rfl) rfl ?_
        refine y (ev_pick1 rfl rfl) rfl ?_
        refine ynil' (kthn (hK13 _ _ ?_))
        clear hK13
        refine ccond rfl (fun h29 => ?_) (fun h29 => ?_)
        · (try simp only [decide_eq_true_eq, beq_iff_eq, beq_eq_false_iff_ne, decide_eq_decide, decide_eq_false_iff_not, Bool.not_eq_true', Bool.not_eq_false', Bool.not_eq_true, Bool.not_eq_false, Bool.not_not, ne_eq, Option.isNone_some, Option.isSome_some, Option.isNone_none, Option.isSome_none] at h29)
          obtain ⟨a, hka⟩ : ∃ a, acts[k]? = some a := ⟨_, List.getElem?_eq_getElem (by omega)⟩
          have hact := haa a (List.mem_of_getElem? hka)
          have hb := hact.bytes
          refine cskip' (kthn (hK12 _ _ ?_))
          clear hK12
          refine cseq ?_; intro K14 hK14
          refine cblock ?_
          refine cseq ?_; intro K15 hK15
          refine creg ?_
          refine y (ev_move rfl) rfl ?_
          refine y (ev_move rfl) rfl ?_
          first
            | refine y (ev_ixAddr rfl rfl Try.underlying22 Try.sizeOf30 (by omega) (by omega)) rfl ?_
            | refine y (ev_ixV (by assumption) rfl rfl Try.underlying22 Try.sizeOf30 (by omega) (by omega)) rfl ?_
          refine y (ev_loadNV (us := a.cells) (k * 4) hl (by repeat first | exact .refl | exact .nil | exact .z | apply Pk.s | refine Ge.e ?_ | apply Ge.pick | apply Ge.drop) rfl Try.isAgg30 Try.sizeOf30 (by simp) (actsV_get _ _ _ hka) rfl) rfl ?_
          refine ya (ac_alloc Try.zeroValue30 rfl) rfl ?_
          rintro v L' ⟨b10, rfl, rfl⟩
          refine ya0 (ac_storeN rfl rfl (cells_one hact) Try.sizeOf30 (by repeat first | exact .z | apply Rp.s) rfl (by decide) rfl) ?_
          rintro v L' ⟨rfl, rfl⟩
          refine ynil' (kthn (hK15 _ _ ?_))
          clear hK15
          refine cseq ?_; intro K16 hK16
          refine cseq ?_; intro K17 hK17
          refine creg ?_
          refine y (ev_loadN (u := a.cells) rfl Try.isAgg30 Try.sizeOf30 (by repeat first | exact .z | apply In.s) rfl rfl) rfl ?_
          refine ycall (large ?act37) rfl Try.call21 (by repeat first | exact .nil | exact .z | apply Pk.s | apply Tk.cons) rfl ?_
          case act37 => exact hact.mono (by repeat first | exact .refl | exact .nil | exact .z | apply Pk.s | refine Ge.e ?_ | apply Ge.pick | apply Ge.drop)
          rintro v L' ⟨rfl, rfl⟩
          refine ynil' (kthn (hK17 _ _ ?_))
          clear hK17
          refine ccond rfl (fun h38 => ?_) (fun h38 => ?_)
          · (try simp only [decide_eq_true_eq, beq_iff_eq, beq_eq_false_iff_ne, decide_eq_decide, decide_eq_false_iff_not, Bool.not_eq_true', Bool.not_eq_false', Bool.not_eq_true, Bool.not_eq_false, Bool.not_not, ne_eq, Option.isNone_some, Option.isSome_some, Option.isNone_none, Option.isSome_none] at h38)
            refine cseq ?_; intro K18 hK18
            refine creg ?_
            refine y (ev_assign rfl) rfl ?_
            refine ynil' (kthn (hK18 _ _ ?_))
            clear hK18
            refine cret (kthr (kbr (kthr (kthr (kbr (kthr ?_))))))
            first
              | (exfalso; omega; done)
              | (refine kretv Try.results4 rfl (L1 := R) (by repeat first | exact .refl | exact .nil | exact .z | apply Pk.s | refine Ge.e ?_ | apply Ge.pick | apply Ge.drop) ?_
                 exact ⟨_, ⟨by first | rfl | (exfalso; omega; done) | (exfalso; simp_all; done) | (simp; omega) | simp_all, rfl⟩, by first | rfl | (exfalso; omega; done) | (exfalso; simp_all; done) | (simp; omega) | simp_all⟩)
          · (try simp only [decide_eq_true_eq, beq_iff_eq, beq_eq_false_iff_ne, decide_eq_decide, decide_eq_false_iff_not, Bool.not_eq_true', Bool.not_eq_false', Bool.not_eq_true, Bool.not_eq_false, Bool.not_not, ne_eq, Option.isNone_some, Option.isSome_some, Option.isNone_none, Option.isSome_none] at h38)
            have hlg : a.bs.length ≤ 1000 ∧ a.ks.length ≤ 600 := by have := h38; simp [ActM.large] at this; omega
            refine cskip' (kthn (hK16 _ _ ?_))
            clear hK16
            refine cseq ?_; intro K19 hK19
            refine creg ?_
            refine ya (ac_bslice0 Try.underlying27 Try.sizeOf5) rfl ?_
            rintro v L' ⟨b56, rfl, rfl⟩
            refine y (ev_fieldAddr 2 rfl Try.underlying30 rfl Try.sizeOf27) rfl ?_
            refine y (ev_load rfl Try.isAgg27 (by repeat first | exact .z | apply In.s) rfl) rfl ?_
            refine ya (ac_append (s := some (b56, 0, [])) (xs := []) (m := 0) (k := a.bs.length) (us := bytesV a.bs) (size := 1) rfl rfl (by repeat first | exact .z | apply Pk.s) Try.underlying27 Try.underlying27 (by intro q hq; cases hq) Try.typeInfo5 rfl rfl rfl ?ok43 ?src43 ?one43 ?big43) rfl ?_
            case ok43 => exact ⟨Nat.le_refl _, Nat.zero_le _, rfl, rfl⟩
            case src43 => exact (hb.mono (by repeat first | exact .refl | exact .nil | exact .z | apply Pk.s | refine Ge.e ?_ | apply Ge.pick | apply Ge.drop)).src
            case one43 => exact bytesV_one _
            case big43 => show (0 + a.bs.length) * 2 ≤ _; omega
            rintro v L' ⟨s59, rfl, ok59, rfl⟩
            rw [Nat.zero_add, List.nil_append] at ok59 ⊢
            refine y (ev_assign rfl) rfl ?_
            refine ynil' (kthn (hK19 _ _ ?_))
            clear hK19
            refine cseq ?_; intro K20 hK20
            refine creg ?_
            refine y (ev_assign rfl) rfl ?_
            refine y (ev_assign rfl) rfl ?_
            refine ynil' (kthn (hK20 _ _ ?_))
            clear hK20
            refine cseq ?_; intro K21 hK21
            have hJr29 : ∀ x : Dev × RDev × Nat × Int, (Rel x.1 x.2.1 ∧ x.1.l.length = n.toNat) → Sk 190 K21 ([(13, i64 x.2.2.2), (12, i64 x.2.2.2), (11, svVal s59 a.bs.length), (10, ptr b10), (9, i64 k), (8, ptr p), (7, dp q), (0, i64 n), (1, lv), (2, i64 i)]) ([svSeg s59 5 (bytesV a.bs), sc b10 a.cells 30, dev q x.1, rP p x.2.2.1 x.2.1, rL x.2.2.1 x.2.1] ++ R) := by
              rintro ⟨D, E, la, er⟩ hIr29
              refine hK21 _ _ ?_
              clear hrel hn1; obtain ⟨hrel, hn1⟩ := hIr29; dsimp only at hrel hn1 ⊢
              refine cseq ?_; intro K22 hK22
              refine cseq ?_; intro K23 hK23
              refine creg ?_
              refine y (ev_move rfl) rfl ?_
              first
                | refine y (ev_len rfl Try.underlying27) rfl ?_
                | refine y (ev_lenSv rfl Try.underlying27 (by assumption)) rfl ?_
                | refine y (ev_lenV rfl Try.underlying27 (RdV.lenVal (by assumption))) rfl ?_
                | refine y (ev_lenV rfl Try.underlying27 (RdB.lenVal (by assumption))) rfl ?_
              refine y (ev_move rfl) rfl ?_
              refine ynil' (kthn (hK23 _ _ ?_))
              clear hK23
              have hJ2 : ∀ x : Nat × Seg, ((FlipOk s59 a.bs.length 5 x.2 ∧ x.1 ≤ a.bs.length) ∧ (True)) → Sk 190 K22 ([(110, i64 x.1), (109, i64 a.bs.length), (13, i64 er), (12, i64 er), (11, svVal s59 a.bs.length), (10, ptr b10), (9, i64 k), (8, ptr p), (7, dp q), (0, i64 n), (1, lv), (2, i64 i)]) ([x.2, sc b10 a.cells 30, dev q D, rP p la E, rL la E] ++ R) := by
                rintro ⟨z, gz⟩ ⟨hI2, hX2⟩
                refine hK22 _ _ ?_
                obtain ⟨hg, hz⟩ := hI2; dsimp only at hg hz ⊢
                refine cseq ?_; intro K24 hK24
                refine cseq ?_; intro K25 hK25
                refine creg ?_
                refine y (ev_move rfl) rfl ?_
                refine y (ev_fieldAddr 1 rfl Try.underlying30 rfl Try.sizeOf3) rfl ?_
                refine y (ev_load rfl Try.isAgg3 (by repeat first | exact .z | apply In.s) rfl) rfl ?_
                refine ya (ac_bsliceR rfl Try.underlying42 Try.sizeOf3 Try.zeroValue3 rfl rfl rfl rfl ⟨⟨_, _, rfl, (by first | rfl | simp), (by first | decide | simp)⟩, ⟨⟨_, _, rfl, (by first | rfl | simp), (by first | decide | simp)⟩, trivial⟩⟩ (by dsimp [fillL, splice, vcells, reps] <;> rfl)) rfl ?_
                rintro v L' ⟨b123, rfl, rfl⟩
                first
                  | refine y (ev_len rfl Try.underlying42) rfl ?_
                  | refine y (ev_lenSv rfl Try.underlying42 (by assumption)) rfl ?_
                  | refine y (ev_lenV rfl Try.underlying42 (RdV.lenVal (by assumption))) rfl ?_
                  | refine y (ev_lenV rfl Try.underlying42 (RdB.lenVal (by assumption))) rfl ?_
                refine y (ev_move rfl) rfl ?_
                refine ynil' (kthn (hK25 _ _ ?_))
                clear hK25
                have hJ3 : ∀ x : Nat, ((x ≤ 2) ∧ (True)) → Sk 190 K24 ([(125, i64 x), (124, i64 2), (123, .slice (some ⟨b123, 0, none⟩) 2 2), (13, i64 er), (12, i64 er), (9, i64 k), (8, ptr p), (7, dp q), (0, i64 n), (1, lv), (2, i64 i)]) ([sc b123 [i64 i, i64 a.i] 3, dev q D, rP p la E, rL la E] ++ R) := by
                  rintro z ⟨hI3, hX3⟩
                  refine hK24 _ _ ?_
                  have hz3 := hI3
                  refine cseq ?_; intro K26 hK26
                  refine cdraw 25 [(0, true), (1, true), (2, true), (3, true), (4, true), (6, true), (5, false), (7, false), (8, false), (9, true), (10, true), (11, true), (12, true), (14, true), (15, true), (16, true), (17, true), (13, false), (18, true), (19, true), (20, true), (21, true), (23, true), (22, false), (24, true)] (_) Try.mixed (by kernel_rfl) .refl ?_
                  refine hr rfl (ev_move rfl) rfl ?_
                  refine hr rfl (ev_move rfl) rfl ?_
                  skip
                  · skip
                    refine hr rfl (ev_neq rfl rfl) rfl ?_
                    rw [show (!decide (er = er)) = false by simp]
                    refine hr rfl (ev_move rfl) rfl ?_
                    refine hr1 rfl rfl rfl (ev_move rfl) rfl ?_
                    refine hr1 rfl rfl rfl (ev_move rfl) rfl ?_
                    refine hcall1 rfl rfl rfl (secPending ?ok62) rfl Try.call33 (by repeat first | exact .nil | exact .z | apply Pk.s | apply Tk.cons) rfl ?_
                    case ok62 => first | exact hrel.ok | exact hrel.rok
                    rintro v L' ⟨s169, rfl, ok169, rfl⟩; refine ⟨(by repeat first | exact .refl | exact .nil | exact .z | apply Pk.s | refine Ge.e ?_ | apply Ge.pick | apply Ge.drop), ?_⟩
                    rw [← pending_length D] at ok169 ⊢
                    refine hcall1 rfl rfl rfl (refPending ?ok63) rfl Try.call34 (by repeat first | exact .nil | exact .z | apply Pk.s | apply Tk.cons) rfl ?_
                    case ok63 => exact hrel.rok
                    rintro v L' ⟨s171, rfl, ok171, rfl⟩; refine ⟨(by repeat first | exact .refl | exact .nil | exact .z | apply Pk.s | refine Ge.e ?_ | apply Ge.pick | apply Ge.drop), ?_⟩
                    rw [← hrel.pending] at *
                    refine hcall1 rfl rfl rfl (refInts (us := D.pending) (vs := D.pending) ?ra64 ?rb64 ?six64) rfl Try.call32 (by repeat first | exact .nil | exact .z | apply Pk.s | apply Tk.cons) rfl ?_
                    case ra64 => exact rdV_sv (by repeat first | exact .z | apply In.s) ok169
                    case rb64 => exact rdV_sv (by repeat first | exact .z | apply In.s) ok171
                    case six64 => rw [pending_length]; have := es_le hrel.ok; omega
                    rintro v L' ⟨rfl, rfl⟩; refine ⟨(by repeat first | exact .refl | exact .nil | exact .z | apply Pk.s | refine Ge.e ?_ | apply Ge.pick | apply Ge.drop), ?_⟩
                    rw [show decide (D.pending = D.pending) = true by simp]
                    refine hr1 rfl rfl rfl (ev_not rfl) rfl ?_
                    refine hr rfl (ev_pick0 rfl rfl) rfl ?_
                    refine hr rfl (ev_move rfl) rfl ?_
                    refine hr1 rfl rfl rfl (ev_move rfl) rfl ?_
                    refine hr1 rfl rfl rfl (ev_move rfl) rfl ?_
                    refine hr1 rfl rfl rfl (ev_nil rfl) rfl ?_
                    refine hr1 rfl rfl rfl (ev_fieldAddr 1 rfl Try.underlying49 rfl Try.sizeOf4) rfl ?_
                    refine hr1 rfl rfl rfl (ev_load rfl Try.isAgg4 (by repeat first | exact .z | apply In.s) rfl) rfl ?_
                    refine hcall1 rfl rfl rfl (secDead) rfl Try.call19 (by repeat first | exact .nil | exact .z | apply Pk.s | apply Tk.cons) rfl ?_
                    rintro v L' ⟨rfl, rfl⟩; refine ⟨(by repeat first | exact .refl | exact .nil | exact .z | apply Pk.s | refine Ge.e ?_ | apply Ge.pick | apply Ge.drop), ?_⟩
                    refine hr1 rfl rfl rfl (ev_neqB rfl rfl Try.underlying4) rfl ?_
                    rw [show (!(D.dead == E.dead)) = false by rw [hrel.dead]; simp]
                    refine hr rfl (ev_pick0 rfl rfl) rfl ?_
                    refine hr rfl (ev_move rfl) rfl ?_
                    refine hr1 rfl rfl rfl (ev_move rfl) rfl ?_
                    refine hr1 rfl rfl rfl (ev_move rfl) rfl ?_
                    refine hcall1 rfl rfl rfl (secSectors) rfl Try.call35 (by repeat first | exact .nil | exact .z | apply Pk.s | apply Tk.cons) rfl ?_
                    rintro v L' ⟨rfl, rfl⟩; refine ⟨(by repeat first | exact .refl | exact .nil | exact .z | apply Pk.s | refine Ge.e ?_ | apply Ge.pick | apply Ge.drop), ?_⟩
                    refine hr1 rfl rfl rfl (ev_neq rfl rfl) rfl ?_
                    rw [show (!decide ((D.l.length : Int) = n)) = false by simp; omega]
                    refine hnil ?_
                    refine y (ev_pick0 rfl rfl) rfl ?_
                    refine hnoP' (kthn (hK26 _ _ ?_))
                    clear hK26
                    refine ccond0 rfl ?_
                    refine cskip' (kbn (kthn (hK14 _ _ ?_)))
                    clear hK14
                    refine creg ?_
                    refine y (ev_move rfl) rfl ?_
                    refine y (ev_add rfl rfl) rfl ?_
                    rw [show IntKind.i64.wrap ((k:Int) + 1) = ((k+1 : Nat) : Int) by rw [wr (by omega) (by omega)]; rfl]
                    refine y (ev_assign rfl) rfl ?_
                    refine ynil' (kthn ?_)
                    exact hL1 (k + 1, D, E, la) ⟨hrel, hn1, by dsimp only; omega, by dsimp only; omega⟩ (by dsimp only; omega) _ _ (by repeat first | exact sub_nil | refine sub_cons rfl ?_ | refine sub_cons' rfl (by simp) ?_) (by repeat first | exact .refl | exact .nil | exact .z | apply Pk.s | refine Ge.e ?_ | apply Ge.pick | apply Ge.drop)
                clear hK24
                refine cblock ?_
                refine cloop (A := Nat) (fun x => [(125, i64 x), (124, i64 2), (123, .slice (some ⟨b123, 0, none⟩) 2 2), (13, i64 er), (12, i64 er), (9, i64 k), (8, ptr p), (7, dp q), (0, i64 n), (1, lv), (2, i64 i)]) (fun x => [sc b123 [i64 i, i64 a.i] 3, dev q D, rP p la E, rL la E] ++ R) (fun x => x ≤ 2) (fun x => 2 - x) (0) ?_ (by repeat first | exact sub_nil | refine sub_cons rfl ?_ | refine sub_cons' rfl (by simp) ?_) (by repeat first | exact .refl | exact .nil | exact .z | apply Pk.s | refine Ge.e ?_ | apply Ge.pick | apply Ge.drop) ?_
                · exact Nat.zero_le _
                rintro z hI3 KL3 hL3
                have hI3o := hI3
                have hz3 := hI3
                refine cseq ?_; intro K27 hK27
                refine creg ?_
                refine y (ev_lss rfl rfl) rfl ?_
                refine ynil' (kthn (hK27 _ _ ?_))
                clear hK27
                refine cseq ?_; intro K28 hK28
                refine ccond rfl (fun h86 => ?_) (fun h86 => ?_)
                · (try simp only [decide_eq_true_eq, beq_iff_eq, beq_eq_false_iff_ne, decide_eq_decide, decide_eq_false_iff_not, Bool.not_eq_true', Bool.not_eq_false', Bool.not_eq_true, Bool.not_eq_false, Bool.not_not, ne_eq, Option.isNone_some, Option.isSome_some, Option.isNone_none, Option.isSome_none] at h86)
                  obtain ⟨si, hsi⟩ : ∃ si, [i64 i, i64 a.i][z]? = some (i64 si) := by
                    rcases Nat.lt_or_ge z 1 with h | h
                    · exact ⟨i, by rw [show z = 0 by omega]; rfl⟩
                    · exact ⟨a.i, by rw [show z = 1 by omega]; rfl⟩
                  refine cskip' (kthn (hK28 _ _ ?_))
                  clear hK28
                  refine cseq ?_; intro K29 hK29
                  refine cblock ?_
                  refine cseq ?_; intro K30 hK30
                  refine creg ?_
                  first
                    | refine y (ev_ixAddr rfl rfl Try.underlying42 Try.sizeOf3 (by omega) (by omega)) rfl ?_
                    | refine y (ev_ixV (by assumption) rfl rfl Try.underlying42 Try.sizeOf3 (by omega) (by omega)) rfl ?_
                  refine y (ev_load rfl Try.isAgg3 (by repeat first | exact .z | apply In.s) (by rw [show 0 + (z : Int).toNat * 1 = z by simp]; exact hsi)) rfl ?_
                  refine y (ev_assign rfl) rfl ?_
                  refine ynil' (kthn (hK30 _ _ ?_))
                  clear hK30
                  refine cseq ?_; intro K31 hK31
                  refine creg ?_
                  refine y (ev_move rfl) rfl ?_
                  refine y (ev_move rfl) rfl ?_
                  refine ycall (secReadU hrel.ok) rfl Try.call30 (by repeat first | exact .nil | exact .z | apply Pk.s | apply Tk.cons) rfl ?_
                  rintro v L' ⟨s132, rfl, ok132, rfl⟩
                  refine y (ev_move rfl) rfl ?_
                  refine y (ev_extract rfl rfl) rfl ?_
                  refine y (ev_extract rfl rfl) rfl ?_
                  refine y (ev_assign rfl) rfl ?_
                  refine y (ev_assign rfl) rfl ?_
                  refine ynil' (kthn (hK31 _ _ ?_))
                  clear hK31
                  refine cseq ?_; intro K32 hK32
                  refine creg ?_
                  refine y (ev_move rfl) rfl ?_
                  refine y (ev_move rfl) rfl ?_
                  refine ycall (refReadU hrel.rok (fun h => by rw [← hrel.has] at h; obtain ⟨-, q0, q1⟩ := has_zero h; rw [← hrel.sec q0 q1]; exact sec_length hrel.ok _)) rfl Try.call31 (by repeat first | exact .nil | exact .z | apply Pk.s | apply Tk.cons) rfl ?_
                  rintro v L' ⟨s138, rfl, ok138, rfl⟩
                  rw [← hrel.rdB, ← hrel.has] at *
                  have hle144 := rdB_le hrel.ok si
                  have hb132 : RdB [svSeg s132 5 (bytesV (D.rdB si))] (svVal s132 (D.rdB si).length) (D.rdB si) := rdB_sv .z ok132
                  have hb138 : RdB [svSeg s138 5 (bytesV (D.rdB si))] (svVal s138 (D.rdB si).length) (D.rdB si) := rdB_sv .z ok138
                  generalize D.rdB si = bs at *
                  refine y (ev_move rfl) rfl ?_
                  refine y (ev_extract rfl rfl) rfl ?_
                  refine y (ev_extract rfl rfl) rfl ?_
                  refine y (ev_assign rfl) rfl ?_
                  refine y (ev_assign rfl) rfl ?_
                  refine ynil' (kthn (hK32 _ _ ?_))
                  clear hK32
                  refine cseq ?_; intro K33 hK33
                  refine cseq ?_; intro K34 hK34
                  refine creg ?_
                  refine y (ev_move rfl) rfl ?_
                  refine y (ev_toStrB hb132 (by repeat first | exact .refl | exact .nil | exact .z | apply Pk.s | refine Ge.e ?_ | apply Ge.pick | apply Ge.drop) rfl Try.underlying27 Try.underlying9 Try.underlying5) rfl ?_
                  refine y (ev_move rfl) rfl ?_
                  refine y (ev_toStrB hb138 (by repeat first | exact .refl | exact .nil | exact .z | apply Pk.s | refine Ge.e ?_ | apply Ge.pick | apply Ge.drop) rfl Try.underlying27 Try.underlying9 Try.underlying5) rfl ?_
                  first
                    | refine y (ev_neqL rfl rfl) rfl ?_
                    | refine y (ev_neqS rfl rfl) rfl ?_
                  refine y (ev_move rfl) rfl ?_
                  refine ysplit 146 rfl (fun h112 => ?_) (fun h112 => ?_)
                  · (try simp only [decide_eq_true_eq, beq_iff_eq, beq_eq_false_iff_ne, decide_eq_decide, decide_eq_false_iff_not, Bool.not_eq_true', Bool.not_eq_false', Bool.not_eq_true, Bool.not_eq_false, Bool.not_not, ne_eq, Option.isNone_some, Option.isSome_some, Option.isNone_none, Option.isSome_none] at h112)
                    exact absurd trivial h112
                  · (try simp only [decide_eq_true_eq, beq_iff_eq, beq_eq_false_iff_ne, decide_eq_decide, decide_eq_false_iff_not, Bool.not_eq_true', Bool.not_eq_false', Bool.not_eq_true, Bool.not_eq_false, Bool.not_not, ne_eq, Option.isNone_some, Option.isSome_some, Option.isNone_none, Option.isSome_none] at h112)
                    refine yg1 rfl rfl ?_
                    refine y (ev_move rfl) rfl ?_
                    refine yg1 rfl rfl ?_
                    refine y (ev_move rfl) rfl ?_
                    refine yg1 rfl rfl ?_
                    refine y (ev_neq rfl rfl) rfl ?_
                    refine y (ev_pick0 rfl rfl) rfl ?_
                    refine ynil' (kthn (hK34 _ _ ?_))
                    clear hK34
                    refine ccond rfl (fun h117 => ?_) (fun h117 => ?_)
                    · (try simp only [decide_eq_true_eq, beq_iff_eq, beq_eq_false_iff_ne, decide_eq_decide, decide_eq_false_iff_not, Bool.not_eq_true', Bool.not_eq_false', Bool.not_eq_true, Bool.not_eq_false, Bool.not_not, ne_eq, Option.isNone_some, Option.isSome_some, Option.isNone_none, Option.isSome_none] at h117)
                      exact absurd trivial h117
                    · (try simp only [decide_eq_true_eq, beq_iff_eq, beq_eq_false_iff_ne, decide_eq_decide, decide_eq_false_iff_not, Bool.not_eq_true', Bool.not_eq_false', Bool.not_eq_true, Bool.not_eq_false, Bool.not_not, ne_eq, Option.isNone_some, Option.isSome_some, Option.isNone_none, Option.isSome_none] at h117)
                      refine cskip' (kthn (hK33 _ _ ?_))
                      clear hK33
                      refine cseq ?_; intro K35 hK35
                      refine creg ?_
                      refine y (ev_move rfl) rfl ?_
                      first
                        | refine y (ev_len rfl Try.underlying27) rfl ?_
                        | refine y (ev_lenSv rfl Try.underlying27 (by assumption)) rfl ?_
                        | refine y (ev_lenV rfl Try.underlying27 (RdV.lenVal (by assumption))) rfl ?_
                        | refine y (ev_lenV rfl Try.underlying27 (RdB.lenVal (by assumption))) rfl ?_
                      refine y (ev_move rfl) rfl ?_
                      refine ynil' (kthn (hK35 _ _ ?_))
                      clear hK35
                      refine cblock ?_
                      refine cloop (A := Nat × Seg) (fun x => [(153, i64 x.1), (152, i64 bs.length), (17, svVal s132 bs.length), (125, i64 z), (124, i64 2), (123, .slice (some ⟨b123, 0, none⟩) 2 2), (13, i64 er), (12, i64 er), (9, i64 k), (8, ptr p), (7, dp q), (0, i64 n), (1, lv), (2, i64 i)]) (fun x => [x.2, sc b123 [i64 i, i64 a.i] 3, dev q D, rP p la E, rL la E] ++ R) (fun x => FlipOk s132 bs.length 5 x.2 ∧ x.1 ≤ bs.length) (fun x => bs.length - x.1) ((0, svSeg s132 5 (bytesV bs))) ?_ (by repeat first | exact sub_nil | refine sub_cons rfl ?_ | refine sub_cons' rfl (by simp) ?_) (by repeat first | exact .refl | exact .nil | exact .z | apply Pk.s | refine Ge.e ?_ | apply Ge.pick | apply Ge.drop) ?_
                      · exact ⟨flipOk rfl, Nat.zero_le _⟩
                      rintro ⟨j, gj⟩ hI4 KL4 hL4
                      have hI4o := hI4
                      obtain ⟨hg, hj⟩ := hI4; dsimp only at hg hj ⊢
                      refine cseq ?_; intro K36 hK36
                      refine creg ?_
                      refine y (ev_lss rfl rfl) rfl ?_
                      refine ynil' (kthn (hK36 _ _ ?_))
                      clear hK36
                      refine cseq ?_; intro K37 hK37
                      refine ccond rfl (fun h122 => ?_) (fun h122 => ?_)
                      · (try simp only [decide_eq_true_eq, beq_iff_eq, beq_eq_false_iff_ne, decide_eq_decide, decide_eq_false_iff_not, Bool.not_eq_true', Bool.not_eq_false', Bool.not_eq_true, Bool.not_eq_false, Bool.not_not, ne_eq, Option.isNone_some, Option.isSome_some, Option.isNone_none, Option.isSome_none] at h122)
                        obtain ⟨bo, capo, spo, hs132, hco⟩ := sv_some ok132 (by omega)
                        obtain ⟨vs, rfl, hu⟩ := hg _ _ _ hs132
                        obtain ⟨cz, hcz⟩ := hu j (by omega)
                        have hvl := (List.getElem?_eq_some_iff.1 hcz).1
                        rw [show svVal s132 bs.length = .slice (some ⟨bo, 0, none⟩) bs.length capo by rw [hs132]; rfl]
                        refine cskip' (kthn (hK37 _ _ ?_))
                        clear hK37
                        refine cseq ?_; intro K38 hK38
                        refine cblock ?_
                        refine cseq ?_; intro K39 hK39
                        refine creg ?_
                        refine y (ev_move rfl) rfl ?_
                        refine y (ev_assign rfl) rfl ?_
                        refine ynil' (kthn (hK39 _ _ ?_))
                        clear hK39
                        refine creg ?_
                        refine y (ev_move rfl) rfl ?_
                        refine y (ev_move rfl) rfl ?_
                        first
                          | refine y (ev_ixAddr rfl rfl Try.underlying27 Try.sizeOf5 (by omega) (by omega)) rfl ?_
                          | refine y (ev_ixV (by assumption) rfl rfl Try.underlying27 Try.sizeOf5 (by omega) (by omega)) rfl ?_
                        refine y (ev_load rfl Try.isAgg5 (by repeat first | exact .z | apply In.s) (by rw [show 0 + (j : Int).toNat * 1 = j by simp]; exact hcz)) rfl ?_
                        refine y (ev_xor rfl rfl) rfl ?_
                        first
                          | refine y (ev_ixAddr rfl rfl Try.underlying27 Try.sizeOf5 (by omega) (by omega)) rfl ?_
                          | refine y (ev_ixV (by assumption) rfl rfl Try.underlying27 Try.sizeOf5 (by omega) (by omega)) rfl ?_
                        refine ya0 (ac_store (vs' := vs.set j (.int .u8 (bXor .u8 cz 1))) rfl rfl rfl Try.sizeOf5 (by repeat first | exact .z | apply Rp.s) (by simp; omega) (by rw [show 0 + (j : Int).toNat * 1 = j by simp])) ?_
                        rintro v L' ⟨rfl, rfl⟩
                        refine ynil' (kbn (kthn (hK38 _ _ ?_)))
                        clear hK38
                        refine creg ?_
                        refine y (ev_add rfl rfl) rfl ?_
                        rw [show IntKind.i64.wrap ((j:Int) + 1) = ((j+1 : Nat) : Int) by rw [wr (by omega) (by omega)]; rfl]
                        rw [show Value.slice (some ⟨bo, 0, none⟩) bs.length capo = svVal s132 bs.length by rw [hs132]; rfl]
                        refine y (ev_move rfl) rfl ?_
                        refine ynil' (kthn ?_)
                        exact hL4 ((j + 1, sc bo (vs.set j (.int .u8 (bXor .u8 cz 1))) 5)) (⟨fun b cap sp e => by rw [hs132] at e; cases e; exact ⟨_, rfl, u8s_set hu _ _⟩, by dsimp only; omega⟩) (by dsimp only; omega) _ _ (by repeat first | exact sub_nil | refine sub_cons rfl ?_ | refine sub_cons' rfl (by simp) ?_) (by repeat first | exact .refl | exact .nil | exact .z | apply Pk.s | refine Ge.e ?_ | apply Ge.pick | apply Ge.drop)
                      · (try simp only [decide_eq_true_eq, beq_iff_eq, beq_eq_false_iff_ne, decide_eq_decide, decide_eq_false_iff_not, Bool.not_eq_true', Bool.not_eq_false', Bool.not_eq_true, Bool.not_eq_false, Bool.not_not, ne_eq, Option.isNone_some, Option.isSome_some, Option.isNone_none, Option.isSome_none] at h122)
                        refine cexit (kthx (kthx (kbx (kbn (kthn (hK29 _ _ ?_))))))
                        clear hK29
                        refine creg ?_
                        refine y (ev_add rfl rfl) rfl ?_
                        rw [show IntKind.i64.wrap ((z:Int) + 1) = ((z+1 : Nat) : Int) by rw [wr (by omega) (by omega)]; rfl]
                        refine y (ev_move rfl) rfl ?_
                        refine ynil' (kthn ?_)
                        exact hL3 (z + 1) (show z + 1 ≤ 2 by omega) (by omega) _ _ (by repeat first | exact sub_nil | refine sub_cons rfl ?_ | refine sub_cons' rfl (by simp) ?_) (by repeat first | exact .refl | exact .nil | exact .z | apply Pk.s | refine Ge.e ?_ | apply Ge.pick | apply Ge.drop)
                · (try simp only [decide_eq_true_eq, beq_iff_eq, beq_eq_false_iff_ne, decide_eq_decide, decide_eq_false_iff_not, Bool.not_eq_true', Bool.not_eq_false', Bool.not_eq_true, Bool.not_eq_false, Bool.not_not, ne_eq, Option.isNone_some, Option.isSome_some, Option.isNone_none, Option.isSome_none] at h86)
                  refine cexit (kthx (kthx (kbx (kthn ?_))))
                  exact ksub (by repeat first | exact sub_nil | refine sub_cons rfl ?_ | refine sub_cons' rfl (by simp) ?_) (by repeat first | exact .refl | exact .nil | exact .z | apply Pk.s | refine Ge.e ?_ | apply Ge.pick | apply Ge.drop) (hJ3 z ⟨hI3o, by first | trivial | omega⟩)
              clear hK22
              refine cblock ?_
              refine cloop (A := Nat × Seg) (fun x => [(110, i64 x.1), (109, i64 a.bs.length), (13, i64 er), (12, i64 er), (11, svVal s59 a.bs.length), (10, ptr b10), (9, i64 k), (8, ptr p), (7, dp q), (0, i64 n), (1, lv), (2, i64 i)]) (fun x => [x.2, sc b10 a.cells 30, dev q D, rP p la E, rL la E] ++ R) (fun x => FlipOk s59 a.bs.length 5 x.2 ∧ x.1 ≤ a.bs.length) (fun x => a.bs.length - x.1) ((0, svSeg s59 5 (bytesV a.bs))) ?_ (by repeat first | exact sub_nil | refine sub_cons rfl ?_ | refine sub_cons' rfl (by simp) ?_) (by repeat first | exact .refl | exact .nil | exact .z | apply Pk.s | refine Ge.e ?_ | apply Ge.pick | apply Ge.drop) ?_
              · exact ⟨flipOk rfl, Nat.zero_le _⟩
              rintro ⟨z, gz⟩ hI2 KL2 hL2
              have hI2o := hI2
              obtain ⟨hg, hz⟩ := hI2; dsimp only at hg hz ⊢
              refine cseq ?_; intro K40 hK40
              refine creg ?_
              refine y (ev_lss rfl rfl) rfl ?_
              refine ynil' (kthn (hK40 _ _ ?_))
              clear hK40
              refine cseq ?_; intro K41 hK41
              refine ccond rfl (fun h137 => ?_) (fun h137 => ?_)
              · (try simp only [decide_eq_true_eq, beq_iff_eq, beq_eq_false_iff_ne, decide_eq_decide, decide_eq_false_iff_not, Bool.not_eq_true', Bool.not_eq_false', Bool.not_eq_true, Bool.not_eq_false, Bool.not_not, ne_eq, Option.isNone_some, Option.isSome_some, Option.isNone_none, Option.isSome_none] at h137)
                obtain ⟨bo, capo, spo, hs59, hco⟩ := sv_some ok59 (by omega)
                obtain ⟨vs, rfl, hu⟩ := hg _ _ _ hs59
                obtain ⟨cz, hcz⟩ := hu z (by omega)
                have hvl := (List.getElem?_eq_some_iff.1 hcz).1
                rw [show svVal s59 a.bs.length = .slice (some ⟨bo, 0, none⟩) a.bs.length capo by rw [hs59]; rfl]
                refine cskip' (kthn (hK41 _ _ ?_))
                clear hK41
                refine cseq ?_; intro K42 hK42
                refine cblock ?_
                refine cseq ?_; intro K43 hK43
                refine creg ?_
                refine y (ev_move rfl) rfl ?_
                refine y (ev_assign rfl) rfl ?_
                refine ynil' (kthn (hK43 _ _ ?_))
                clear hK43
                refine creg ?_
                refine y (ev_move rfl) rfl ?_
                refine y (ev_move rfl) rfl ?_
                first
                  | refine y (ev_ixAddr rfl rfl Try.underlying27 Try.sizeOf5 (by omega) (by omega)) rfl ?_
                  | refine y (ev_ixV (by assumption) rfl rfl Try.underlying27 Try.sizeOf5 (by omega) (by omega)) rfl ?_
                refine y (ev_load rfl Try.isAgg5 (by repeat first | exact .z | apply In.s) (by rw [show 0 + (z : Int).toNat * 1 = z by simp]; exact hcz)) rfl ?_
                refine y (ev_xor rfl rfl) rfl ?_
                first
                  | refine y (ev_ixAddr rfl rfl Try.underlying27 Try.sizeOf5 (by omega) (by omega)) rfl ?_
                  | refine y (ev_ixV (by assumption) rfl rfl Try.underlying27 Try.sizeOf5 (by omega) (by omega)) rfl ?_
                refine ya0 (ac_store (vs' := vs.set z (.int .u8 (bXor .u8 cz 1))) rfl rfl rfl Try.sizeOf5 (by repeat first | exact .z | apply Rp.s) (by simp; omega) (by rw [show 0 + (z : Int).toNat * 1 = z by simp])) ?_
                rintro v L' ⟨rfl, rfl⟩
                refine ynil' (kbn (kthn (hK42 _ _ ?_)))
                clear hK42
                refine creg ?_
                refine y (ev_add rfl rfl) rfl ?_
                rw [show IntKind.i64.wrap ((z:Int) + 1) = ((z+1 : Nat) : Int) by rw [wr (by omega) (by omega)]; rfl]
                rw [show Value.slice (some ⟨bo, 0, none⟩) a.bs.length capo = svVal s59 a.bs.length by rw [hs59]; rfl]
                refine y (ev_move rfl) rfl ?_
                refine ynil' (kthn ?_)
                exact hL2 ((z + 1, sc bo (vs.set z (.int .u8 (bXor .u8 cz 1))) 5)) (⟨fun b cap sp e => by rw [hs59] at e; cases e; exact ⟨_, rfl, u8s_set hu _ _⟩, by dsimp only; omega⟩) (by dsimp only; omega) _ _ (by repeat first | exact sub_nil | refine sub_cons rfl ?_ | refine sub_cons' rfl (by simp) ?_) (by repeat first | exact .refl | exact .nil | exact .z | apply Pk.s | refine Ge.e ?_ | apply Ge.pick | apply Ge.drop)
              · (try simp only [decide_eq_true_eq, beq_iff_eq, beq_eq_false_iff_ne, decide_eq_decide, decide_eq_false_iff_not, Bool.not_eq_true', Bool.not_eq_false', Bool.not_eq_true, Bool.not_eq_false, Bool.not_not, ne_eq, Option.isNone_some, Option.isSome_some, Option.isNone_none, Option.isSome_none] at h137)
                refine cexit (kthx (kthx (kbx (kthn ?_))))
                exact ksub (by repeat first | exact sub_nil | refine sub_cons rfl ?_ | refine sub_cons' rfl (by simp) ?_) (by repeat first | exact .refl | exact .nil | exact .z | apply Pk.s | refine Ge.e ?_ | apply Ge.pick | apply Ge.drop) (hJ2 ⟨z, gz⟩ ⟨hI2o, by first | trivial | omega⟩)
            clear hK21
            refine cseq ?_; intro K44 hK44
            refine creg ?_
            refine y (ev_fieldAddr 0 rfl Try.underlying30 rfl Try.sizeOf3) rfl ?_
            refine y (ev_load rfl Try.isAgg3 (by repeat first | exact .z | apply In.s) rfl) rfl ?_
            refine ynil' (kthn (hK44 _ _ ?_))
            clear hK44
            refine cblock ?_
            refine cseq ?_; intro K45 hK45
            refine creg ?_
            refine y (ev_eql rfl rfl) rfl ?_
            refine y (ev_assign rfl) rfl ?_
            refine ynil' (kthn (hK45 _ _ ?_))
            clear hK45
            refine ccond rfl (fun h153 => ?_) (fun h153 => ?_)
            · (try simp only [decide_eq_true_eq, beq_iff_eq, beq_eq_false_iff_ne, decide_eq_decide, decide_eq_false_iff_not, Bool.not_eq_true', Bool.not_eq_false', Bool.not_eq_true, Bool.not_eq_false, Bool.not_not, ne_eq, Option.isNone_some, Option.isSome_some, Option.isNone_none, Option.isSome_none] at h153)
              refine cdraw 10 [(0, true), (1, true), (2, true), (3, true), (5, true), (6, true), (7, true), (8, true), (9, true), (4, false)] ([sc b10 a.cells 30] ++ R) Try.mixed (by kernel_rfl) (by repeat first | exact .refl | exact .nil | exact .z | apply Pk.s | refine Ge.e ?_ | apply Ge.pick | apply Ge.drop) ?_
              refine hr rfl (ev_move rfl) rfl ?_
              refine hr rfl (ev_fieldAddr 1 rfl Try.underlying30 rfl Try.sizeOf3) rfl ?_
              refine hr rfl (ev_load rfl Try.isAgg3 (by repeat first | exact .z | apply In.s) rfl) rfl ?_
              refine hr rfl (ev_move rfl) rfl ?_
              refine hr rfl (ev_move rfl) rfl ?_
              refine hr rfl (ev_fieldAddr 1 rfl Try.underlying30 rfl Try.sizeOf3) rfl ?_
              refine hr rfl (ev_load rfl Try.isAgg3 (by repeat first | exact .z | apply In.s) rfl) rfl ?_
              refine hr rfl (ev_fieldAddr 2 rfl Try.underlying30 rfl Try.sizeOf27) rfl ?_
              refine hr rfl (ev_load rfl Try.isAgg27 (by repeat first | exact .z | apply In.s) rfl) rfl ?_
              refine hcall rfl (secWrite (bs := a.bs) ?ok163 ?rd163) rfl Try.call18 (by repeat first | exact .nil | exact .z | apply Pk.s | apply Tk.cons) rfl ?_
              case ok163 => first | exact hrel.ok | exact hrel.rok
              case rd163 => exact rdB_sv (by repeat first | exact .z | apply In.s) ok59
              rintro v L' ⟨rfl, rfl⟩; refine ⟨(by repeat first | exact .refl | exact .nil | exact .z | apply Pk.s | refine Ge.e ?_ | apply Ge.pick | apply Ge.drop), ?_⟩
              refine hnil ?_
              refine ycall (refWriteB (bs := a.bs) ?ok164 ?rd164) rfl Try.call22 (by repeat first | exact .nil | exact .z | apply Pk.s | apply Tk.cons) rfl ?_
              case ok164 => exact hrel.rok
              case rd164 => exact hb.mono (by repeat first | exact .refl | exact .nil | exact .z | apply Pk.s | refine Ge.e ?_ | apply Ge.pick | apply Ge.drop)
              rintro v L' ⟨rfl, rfl⟩
              obtain ⟨he, hrel'⟩ := hrel.write a.i a.bs; have hl' : (D.write a.i a.bs).2.l.length = n.toNat := by rw [write_l]; exact hn1
              rw [← he]
              refine y (ev_assign rfl) rfl ?_
              refine y (ev_assign rfl) rfl ?_
              refine hnoP' (kbn (kthn ?_))
              first
                | (exfalso; omega; done)
                | exact ksub (by repeat first | exact sub_nil | refine sub_cons rfl ?_ | refine sub_cons' rfl (by simp) ?_) (by repeat first | exact .refl | exact .nil | exact .z | apply Pk.s | refine Ge.e ?_ | apply Ge.pick | apply Ge.drop) (hJr29 (_, _, _, _) (⟨hrel', hl'⟩))
            · (try simp only [decide_eq_true_eq, beq_iff_eq, beq_eq_false_iff_ne, decide_eq_decide, decide_eq_false_iff_not, Bool.not_eq_true', Bool.not_eq_false', Bool.not_eq_true, Bool.not_eq_false, Bool.not_not, ne_eq, Option.isNone_some, Option.isSome_some, Option.isNone_none, Option.isSome_none] at h153)
              refine cseq ?_; intro K46 hK46
              refine creg ?_
              refine y (ev_eql rfl rfl) rfl ?_
              refine y (ev_assign rfl) rfl ?_
              refine ynil' (kthn (hK46 _ _ ?_))
              clear hK46
              refine ccond rfl (fun h169 => ?_) (fun h169 => ?_)
              · (try simp only [decide_eq_true_eq, beq_iff_eq, beq_eq_false_iff_ne, decide_eq_decide, decide_eq_false_iff_not, Bool.not_eq_true', Bool.not_eq_false', Bool.not_eq_true, Bool.not_eq_false, Bool.not_not, ne_eq, Option.isNone_some, Option.isSome_some, Option.isNone_none, Option.isSome_none] at h169)
                refine creg ?_
                refine y (ev_move rfl) rfl ?_
                refine ycall (secBarrier ?ok171) rfl Try.call17 (by repeat first | exact .nil | exact .z | apply Pk.s | apply Tk.cons) rfl ?_
                case ok171 => first | exact hrel.ok | exact hrel.rok
                rintro v L' ⟨rfl, rfl⟩
                refine y (ev_move rfl) rfl ?_
                refine ycall (refBarrier ?ok173) rfl Try.call23 (by repeat first | exact .nil | exact .z | apply Pk.s | apply Tk.cons) rfl ?_
                case ok173 => exact hrel.rok
                rintro v L' ⟨rfl, rfl⟩
                obtain ⟨he, hrel'⟩ := hrel.barrier; have hl' : D.barrier.2.l.length = n.toNat := barrier_l.trans hn1
                rw [← he]
                refine y (ev_assign rfl) rfl ?_
                refine y (ev_assign rfl) rfl ?_
                refine ynil' (kbn (kthn ?_))
                first
                  | (exfalso; omega; done)
                  | exact ksub (by repeat first | exact sub_nil | refine sub_cons rfl ?_ | refine sub_cons' rfl (by simp) ?_) (by repeat first | exact .refl | exact .nil | exact .z | apply Pk.s | refine Ge.e ?_ | apply Ge.pick | apply Ge.drop) (hJr29 (_, _, _, _) (⟨hrel', hl'⟩))
              · (try simp only [decide_eq_true_eq, beq_iff_eq, beq_eq_false_iff_ne, decide_eq_decide, decide_eq_false_iff_not, Bool.not_eq_true', Bool.not_eq_false', Bool.not_eq_true, Bool.not_eq_false, Bool.not_not, ne_eq, Option.isNone_some, Option.isSome_some, Option.isNone_none, Option.isSome_none] at h169)
                refine cseq ?_; intro K47 hK47
                refine creg ?_
                refine y (ev_eql rfl rfl) rfl ?_
                refine y (ev_assign rfl) rfl ?_
                refine ynil' (kthn (hK47 _ _ ?_))
                clear hK47
                refine ccond rfl (fun h178 => ?_) (fun h178 => ?_)
                · (try simp only [decide_eq_true_eq, beq_iff_eq, beq_eq_false_iff_ne, decide_eq_decide, decide_eq_false_iff_not, Bool.not_eq_true', Bool.not_eq_false', Bool.not_eq_true, Bool.not_eq_false, Bool.not_not, ne_eq, Option.isNone_some, Option.isSome_some, Option.isNone_none, Option.isSome_none] at h178)
                  refine cseq ?_; intro K48 hK48
                  refine creg ?_
                  refine y (ev_move rfl) rfl ?_
                  refine y (ev_fieldAddr 1 rfl Try.underlying30 rfl Try.sizeOf3) rfl ?_
                  refine y (ev_load rfl Try.isAgg3 (by repeat first | exact .z | apply In.s) rfl) rfl ?_
                  refine ycall (secFuse) rfl Try.call16 (by repeat first | exact .nil | exact .z | apply Pk.s | apply Tk.cons) rfl ?_
                  rintro v L' ⟨rfl, rfl⟩
                  refine ynil' (kthn (hK48 _ _ ?_))
                  clear hK48
                  refine creg ?_
                  refine y (ev_move rfl) rfl ?_
                  refine y (ev_fieldAddr 1 rfl Try.underlying30 rfl Try.sizeOf3) rfl ?_
                  refine y (ev_load rfl Try.isAgg3 (by repeat first | exact .z | apply In.s) rfl) rfl ?_
                  refine ycall (refSetFuse) rfl Try.call24 (by repeat first | exact .nil | exact .z | apply Pk.s | apply Tk.cons) rfl ?_
                  rintro v L' ⟨rfl, rfl⟩
                  have hrel' := hrel.setFuse hact.int; have hl' : (D.setFuse a.i).l.length = n.toNat := hn1
                  refine ynil' (kbn (kthn ?_))
                  first
                    | (exfalso; omega; done)
                    | exact ksub (by repeat first | exact sub_nil | refine sub_cons rfl ?_ | refine sub_cons' rfl (by simp) ?_) (by repeat first | exact .refl | exact .nil | exact .z | apply Pk.s | refine Ge.e ?_ | apply Ge.pick | apply Ge.drop) (hJr29 (_, _, _, _) (⟨hrel', hl'⟩))
                · (try simp only [decide_eq_true_eq, beq_iff_eq, beq_eq_false_iff_ne, decide_eq_decide, decide_eq_false_iff_not, Bool.not_eq_true', Bool.not_eq_false', Bool.not_eq_true, Bool.not_eq_false, Bool.not_not, ne_eq, Option.isNone_some, Option.isSome_some, Option.isNone_none, Option.isSome_none] at h178)
                  refine cseq ?_; intro K49 hK49
                  refine creg ?_
                  refine y (ev_eql rfl rfl) rfl ?_
                  refine y (ev_assign rfl) rfl ?_
                  refine ynil' (kthn (hK49 _ _ ?_))
                  clear hK49
                  refine ccond rfl (fun h189 => ?_) (fun h189 => ?_)
                  · (try simp only [decide_eq_true_eq, beq_iff_eq, beq_eq_false_iff_ne, decide_eq_decide, decide_eq_false_iff_not, Bool.not_eq_true', Bool.not_eq_false', Bool.not_eq_true, Bool.not_eq_false, Bool.not_not, ne_eq, Option.isNone_some, Option.isSome_some, Option.isNone_none, Option.isSome_none] at h189)
                    refine cseq ?_; intro K50 hK50
                    refine creg ?_
                    refine y (ev_move rfl) rfl ?_
                    refine y (ev_fieldAddr 3 rfl Try.underlying30 rfl Try.sizeOf28) rfl ?_
                    refine y (ev_load rfl Try.isAgg28 (by repeat first | exact .z | apply In.s) rfl) rfl ?_
                    refine ycall (secCrash (ks := a.ks) ?ok193 ?ks193) rfl Try.call25 (by repeat first | exact .nil | exact .z | apply Pk.s | apply Tk.cons) rfl ?_
                    case ok193 => first | exact hrel.ok | exact hrel.rok
                    case ks193 => first | exact hact.keeps.mono (by repeat first | exact .refl | exact .nil | exact .z | apply Pk.s | refine Ge.e ?_ | apply Ge.pick | apply Ge.drop)
                    rintro v L' ⟨rfl, rfl⟩
                    refine ynil' (kthn (hK50 _ _ ?_))
                    clear hK50
                    refine creg ?_
                    refine y (ev_move rfl) rfl ?_
                    refine y (ev_fieldAddr 3 rfl Try.underlying30 rfl Try.sizeOf28) rfl ?_
                    refine y (ev_load rfl Try.isAgg28 (by repeat first | exact .z | apply In.s) rfl) rfl ?_
                    refine ycall (refKeeps (ks := a.ks) ?ks197 ?six197) rfl Try.call27 (by repeat first | exact .nil | exact .z | apply Pk.s | apply Tk.cons) rfl ?_
                    case ks197 => first | exact hact.keeps.mono (by repeat first | exact .refl | exact .nil | exact .z | apply Pk.s | refine Ge.e ?_ | apply Ge.pick | apply Ge.drop)
                    case six197 => omega
                    rintro v L' ⟨s100, rfl, ok100, rfl⟩
                    refine ycall (refCrash (ks := a.ks) ?ok198 ?ks198) rfl Try.call26 (by repeat first | exact .nil | exact .z | apply Pk.s | apply Tk.cons) rfl ?_
                    case ok198 => exact hrel.rok
                    case ks198 => exact rdV_sv (by repeat first | exact .z | apply In.s) ok100
                    rintro v L' ⟨rfl, rfl⟩
                    have hrel' := hrel.crash a.ks; have hl' : (D.crash a.ks).l.length = n.toNat := by rw [← hn1]; simp [Dev.crash, crashL_length]
                    refine ynil' (kbn (kthn ?_))
                    first
                      | (exfalso; omega; done)
                      | exact ksub (by repeat first | exact sub_nil | refine sub_cons rfl ?_ | refine sub_cons' rfl (by simp) ?_) (by repeat first | exact .refl | exact .nil | exact .z | apply Pk.s | refine Ge.e ?_ | apply Ge.pick | apply Ge.drop) (hJr29 (_, _, _, _) (⟨hrel', hl'⟩))
                  · (try simp only [decide_eq_true_eq, beq_iff_eq, beq_eq_false_iff_ne, decide_eq_decide, decide_eq_false_iff_not, Bool.not_eq_true', Bool.not_eq_false', Bool.not_eq_true, Bool.not_eq_false, Bool.not_not, ne_eq, Option.isNone_some, Option.isSome_some, Option.isNone_none, Option.isSome_none] at h189)
                    refine cseq ?_; intro K51 hK51
                    refine creg ?_
                    refine y (ev_eql rfl rfl) rfl ?_
                    refine y (ev_assign rfl) rfl ?_
                    refine ynil' (kthn (hK51 _ _ ?_))
                    clear hK51
                    refine ccond rfl (fun h201 => ?_) (fun h201 => ?_)
                    · (try simp only [decide_eq_true_eq, beq_iff_eq, beq_eq_false_iff_ne, decide_eq_decide, decide_eq_false_iff_not, Bool.not_eq_true', Bool.not_eq_false', Bool.not_eq_true, Bool.not_eq_false, Bool.not_not, ne_eq, Option.isNone_some, Option.isSome_some, Option.isNone_none, Option.isSome_none] at h201)
                      refine cseq ?_; intro K52 hK52
                      refine creg ?_
                      refine y (ev_move rfl) rfl ?_
                      refine ycall (secLose ?ok203) rfl Try.call28 (by repeat first | exact .nil | exact .z | apply Pk.s | apply Tk.cons) rfl ?_
                      case ok203 => first | exact hrel.ok | exact hrel.rok
                      rintro v L' ⟨rfl, rfl⟩
                      refine ynil' (kthn (hK52 _ _ ?_))
                      clear hK52
                      refine creg ?_
                      refine y (ev_move rfl) rfl ?_
                      refine ycall (refLose ?ok205) rfl Try.call29 (by repeat first | exact .nil | exact .z | apply Pk.s | apply Tk.cons) rfl ?_
                      case ok205 => exact hrel.rok
                      rintro v L' ⟨rfl, la107, rfl⟩
                      have hrel' := hrel.lose; have hl' : D.lose.l.length = n.toNat := by rw [← hn1]; simp [Dev.lose]
                      refine ynil' (kbn (kthn ?_))
                      first
                        | (exfalso; omega; done)
                        | exact ksub (by repeat first | exact sub_nil | refine sub_cons rfl ?_ | refine sub_cons' rfl (by simp) ?_) (by repeat first | exact .refl | exact .nil | exact .z | apply Pk.s | refine Ge.e ?_ | apply Ge.pick | apply Ge.drop) (hJr29 (_, _, _, _) (⟨hrel', hl'⟩))
                    · (try simp only [decide_eq_true_eq, beq_iff_eq, beq_eq_false_iff_ne, decide_eq_decide, decide_eq_false_iff_not, Bool.not_eq_true', Bool.not_eq_false', Bool.not_eq_true, Bool.not_eq_false, Bool.not_not, ne_eq, Option.isNone_some, Option.isSome_some, Option.isNone_none, Option.isSome_none] at h201)
                      have hrel' := hrel; have hl' := hn1
                      refine cskip' (kbn (kthn ?_))
                      first
                        | (exfalso; omega; done)
                        | exact ksub (by repeat first | exact sub_nil | refine sub_cons rfl ?_ | refine sub_cons' rfl (by simp) ?_) (by repeat first | exact .refl | exact .nil | exact .z | apply Pk.s | refine Ge.e ?_ | apply Ge.pick | apply Ge.drop) (hJr29 (_, _, _, _) (⟨hrel', hl'⟩))
        · (try simp only [decide_eq_true_eq, beq_iff_eq, beq_eq_false_iff_ne, decide_eq_decide, decide_eq_false_iff_not, Bool.not_eq_true', Bool.not_eq_false', Bool.not_eq_true, Bool.not_eq_false, Bool.not_not, ne_eq, Option.isNone_some, Option.isSome_some, Option.isNone_none, Option.isSome_none] at h29)
          refine cexit (kthx (kthx (kbx (kthn ?_))))
          exact ksub (by repeat first | exact sub_nil | refine sub_cons rfl ?_ | refine sub_cons' rfl (by simp) ?_) (by repeat first | exact .refl | exact .nil | exact .z | apply Pk.s | refine Ge.e ?_ | apply Ge.pick | apply Ge.drop) (hJ1 ⟨k, D, E, la⟩ ⟨hI1o, by first | trivial | omega⟩)
      · (try simp only [decide_eq_true_eq, beq_iff_eq, beq_eq_false_iff_ne, decide_eq_decide, decide_eq_false_iff_not, Bool.not_eq_true', Bool.not_eq_false', Bool.not_eq_true, Bool.not_eq_false, Bool.not_not, ne_eq, Option.isNone_some, Option.isSome_some, Option.isNone_none, Option.isSome_none] at h25)
        refine yg0 rfl rfl rfl rfl ?_
        refine yg0 rfl rfl rfl rfl ?_
        refine y (ev_pick0 rfl rfl) rfl ?_
        refine ynil' (kthn (hK13 _ _ ?_))
        clear hK13
        refine ccond0 rfl ?_
        refine cexit (kthx (kthx (kbx (kthn ?_))))
        exact ksub (by repeat first | exact sub_nil | refine sub_cons rfl ?_ | refine sub_cons' rfl (by simp) ?_) (by repeat first | exact .refl | exact .nil | exact .z | apply Pk.s | refine Ge.e ?_ | apply Ge.pick | apply Ge.drop) (hJ1 ⟨k, D, E, la⟩ ⟨hI1o, by first | trivial | omega⟩)
    · skip
      first | (refine ycall (secNewI hn) rfl Try.call15 (by repeat first | exact .nil | exact .z | apply Pk.s | apply Tk.cons) rfl ?_; rintro v L' ⟨q, rfl, rfl⟩) | (refine ycall (secNewNil (by omega)) rfl Try.call15 (by repeat first | exact .nil | exact .z | apply Pk.s | apply Tk.cons) rfl ?_; rintro v L' ⟨rfl, rfl⟩)
      refine y (ev_assign rfl) rfl ?_
      refine ynil' (kthn (hK5 _ _ ?_))
      clear hK5
      refine cseq ?_; intro K53 hK53
      refine creg ?_
      refine y (ev_move rfl) rfl ?_
      first | (refine ycall (refNewI hn) rfl Try.call20 (by repeat first | exact .nil | exact .z | apply Pk.s | apply Tk.cons) rfl ?_; rintro v L' ⟨p, la, rfl, rfl⟩) | (refine ycall (refNewNil (by omega)) rfl Try.call20 (by repeat first | exact .nil | exact .z | apply Pk.s | apply Tk.cons) rfl ?_; rintro v L' ⟨rfl, rfl⟩)
      refine y (ev_assign rfl) rfl ?_
      refine ynil' (kthn (hK53 _ _ ?_))
      clear hK53
      refine cseq ?_; intro K54 hK54
      refine cseq ?_; intro K55 hK55
      refine creg ?_
      refine y (ev_move rfl) rfl ?_
      refine y (ev_eqlPnil rfl rfl Try.underlying24) rfl ?_
      refine y (ev_move rfl) rfl ?_
      refine yg0 rfl rfl rfl rfl ?_
      refine yg0 rfl rfl rfl rfl ?_
      refine y (ev_pick1 rfl rfl) rfl ?_
      refine ynil' (kthn (hK55 _ _ ?_))
      clear hK55
      refine ccond1 rfl ?_
      refine cseq ?_; intro K56 hK56
      refine creg ?_
      refine y (ev_move rfl) rfl ?_
      refine y (ev_eqlPnil rfl rfl Try.underlying24) rfl ?_
      refine y (ev_move rfl) rfl ?_
      refine yg1 rfl rfl ?_
      refine y (ev_move rfl) rfl ?_
      refine yg1 rfl rfl ?_
      refine y (ev_eqlPnil rfl rfl Try.underlying35) rfl ?_
      refine y (ev_pick1 rfl rfl) rfl ?_
      refine y (ev_assign rfl) rfl ?_
      refine ynil' (kthn (hK56 _ _ ?_))
      clear hK56
      refine cret (kthr ?_)
      first
        | (exfalso; omega; done)
        | (refine kretv Try.results4 rfl (L1 := R) (by repeat first | exact .refl | exact .nil | exact .z | apply Pk.s | refine Ge.e ?_ | apply Ge.pick | apply Ge.drop) ?_
           exact ⟨_, ⟨by first | rfl | (exfalso; omega; done) | (exfalso; simp_all; done) | (simp; omega) | simp_all, rfl⟩, by first | rfl | (exfalso; omega; done) | (exfalso; simp_all; done) | (simp; omega) | simp_all⟩)
end W
end Go.Proofs
