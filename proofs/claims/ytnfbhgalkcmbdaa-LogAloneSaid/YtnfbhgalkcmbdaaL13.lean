/- A part of the proof: contracts and plain lemmas, each without conditions beyond those that it names. -/
import Derived.Test.YtnfbhgalkcmbdaaL8
import Derived.Test.YtnfbhgalkcmbdaaGM
set_option linter.unusedVariables false
set_option linter.unusedSimpArgs false
set_option linter.constructorNameAsVariable false
namespace Go.Proofs
open Go Go.Sl
namespace W
set_option linter.unusedVariables false
theorem secsOf_get {D : Dev} {N k : Nat} (h : k < N) : (secsOf D N)[k]? = some (D.sec (k : Nat)) := by simp [secsOf, h]
theorem lawLAlone [Env] {R : List Seg} {bv : Int} {lv : Value} {acts : List ActL} (hb : 0 ≤ bv ∧ bv ≤ 255) (hl : RdV R lv acts.length (actlsV acts)) (haa : ∀ a ∈ acts, a.ok R) :
    Con Try.prog 8 [.int .u8 bv, lv] [] R (Is (.bool true) []) := by
  have hvl := hl.lenVal
  refine con_enter Try.func8 Try.ntmps8 rfl rfl ?_
  refine cseq ?_; intro K1 hK1
  refine creg ?_
  refine y (ev_assign rfl) rfl ?_
  refine ynil' (kthn (hK1 _ _ ?_))
  clear hK1
  refine cseq ?_; intro K2 hK2
  refine cseq ?_; intro K3 hK3
  refine creg ?_
  refine ycall (awake6) rfl Try.call25 (by repeat first | exact .nil | exact .z | apply Pk.s | apply Tk.cons) rfl ?_
  rintro v L' ⟨rfl, rfl⟩
  skip
  · skip
    refine y (ev_not rfl) rfl ?_
    refine ynil' (kthn (hK3 _ _ ?_))
    clear hK3
    refine ccond0 rfl ?_
    refine cskip' (kthn (hK2 _ _ ?_))
    clear hK2
    refine cseq ?_; intro K4 hK4
    refine creg ?_
    refine y (ev_move rfl) rfl ?_
    refine y (ev_rem rfl rfl (by decide)) rfl ?_
    refine y (ev_conv rfl Try.underlying5 Try.underlying3) rfl ?_
    refine y (ev_add rfl rfl) rfl ?_
    rw [nRing_eq hb.1 hb.2]; obtain ⟨n2, n20⟩ := nRing_le bv; obtain ⟨n, hn0⟩ : ∃ n, nRing bv = n := ⟨_, rfl⟩; rw [hn0] at n2 n20 ⊢
    refine y (ev_assign rfl) rfl ?_
    refine ynil' (kthn (hK4 _ _ ?_))
    clear hK4
    refine cseq ?_; intro K5 hK5
    refine creg ?_
    refine y (ev_move rfl) rfl ?_
    refine y (ev_add rfl rfl) rfl ?_
    rw [wr (by omega) (by omega), show (n : Int) + 5 = ((n + 5 : Nat) : Int) by omega]
    refine ycall (secNew (n := n + 5) (by omega)) rfl Try.call12 (by repeat first | exact .nil | exact .z | apply Pk.s | apply Tk.cons) rfl ?_
    rintro v L' ⟨q30, rfl, rfl⟩
    refine y (ev_assign rfl) rfl ?_
    refine ynil' (kthn (hK5 _ _ ?_))
    clear hK5
    refine cseq ?_; intro K6 hK6
    refine cseq ?_; intro K7 hK7
    refine creg ?_
    refine y (ev_move rfl) rfl ?_
    skip
    · skip
      refine y (ev_eqlPnil rfl rfl Try.underlying24) rfl ?_
      refine ynil' (kthn (hK7 _ _ ?_))
      clear hK7
      refine ccond0 rfl ?_
      refine cskip' (kthn (hK6 _ _ ?_))
      clear hK6
      refine cseq ?_; intro K8 hK8
      refine cseq ?_; intro K9 hK9
      refine creg ?_
      refine y (ev_move rfl) rfl ?_
      refine y (ev_add rfl rfl) rfl ?_
      rw [wr (by omega) (by omega)]
      refine ya (ac_bsliceR rfl Try.underlying32 Try.sizeOf3 Try.zeroValue3 rfl rfl rfl rfl ⟨⟨_, _, rfl, (by first | rfl | simp), (by first | decide | simp)⟩, ⟨⟨_, _, rfl, (by first | rfl | simp), (by first | decide | simp)⟩, ⟨⟨_, _, rfl, (by first | rfl | simp), (by first | decide | simp)⟩, trivial⟩⟩⟩ (by dsimp [fillL, splice, vcells, reps] <;> rfl)) rfl ?_
      rintro v L' ⟨b35, rfl, rfl⟩
      first
        | refine y (ev_len rfl Try.underlying32) rfl ?_
        | refine y (ev_lenSv rfl Try.underlying32 (by assumption)) rfl ?_
        | refine y (ev_lenV rfl Try.underlying32 (RdV.lenVal (by assumption))) rfl ?_
        | refine y (ev_lenV rfl Try.underlying32 (RdB.lenVal (by assumption))) rfl ?_
      refine y (ev_move rfl) rfl ?_
      refine ynil' (kthn (hK9 _ _ ?_))
      clear hK9
      have hJ1 : ∀ x : Nat × Dev, ((MInit n x.2 x.1 ∧ x.1 ≤ 3) ∧ (x.1 = 3)) → Sk 146 K8 ([(37, i64 x.1), (36, i64 3), (35, .slice (some ⟨b35, 0, none⟩) 3 3), (6, dp q30), (5, i64 n), (1, lv)]) ([sc b35 (intsV (mineK n)) 3, dev q30 x.2] ++ R) := by
        rintro ⟨k, D⟩ ⟨hI1, hX1⟩
        refine hK8 _ _ ?_
        obtain ⟨hM, hk⟩ := hI1; dsimp only at hM hk ⊢; have hrd : RdV [sc b35 (intsV (mineK n)) 3] (.slice (some ⟨b35, 0, none⟩) 3 3) 3 (intsV (mineK n)) := rdV_in .z rfl rfl
        dsimp only at hX1; subst hX1; have hG0 := hM.ldev ⟨n2, n20⟩; have hmine := hM.mine
        refine cseq ?_; intro K10 hK10
        refine creg ?_
        refine y (ev_move rfl) rfl ?_
        refine y (ev_move rfl) rfl ?_
        refine ycall (gOpen hG0 (by decide) rfl) rfl Try.call26 (by repeat first | exact .nil | exact .z | apply Pk.s | apply Tk.cons) rfl ?_
        rintro v L' ⟨D1, p50, c50, s50, rfl, hG1, hf50, ok50, rfl⟩
        have hmine1 := hmine.same (fun k hk => by have := mineK_in n2 hk; exact hf50 k (by omega) (by omega) (by omega) (by omega))
        refine y (ev_move rfl) rfl ?_
        refine y (ev_extract rfl rfl) rfl ?_
        refine y (ev_extract rfl rfl) rfl ?_
        refine y (ev_assign rfl) rfl ?_
        refine y (ev_assign rfl) rfl ?_
        refine ynil' (kthn (hK10 _ _ ?_))
        clear hK10
        refine cseq ?_; intro K11 hK11
        refine cseq ?_; intro K12 hK12
        refine creg ?_
        refine y (ev_move rfl) rfl ?_
        skip
        · skip
          refine y (ev_eqlPnil rfl rfl Try.underlying46) rfl ?_
          refine ynil' (kthn (hK12 _ _ ?_))
          clear hK12
          refine ccond0 rfl ?_
          refine cskip' (kthn (hK11 _ _ ?_))
          clear hK11
          refine cseq ?_; intro K13 hK13
          refine cseq ?_; intro K14 hK14
          refine creg ?_
          refine y (ev_assign rfl) rfl ?_
          refine ynil' (kthn (hK14 _ _ ?_))
          clear hK14
          have hJ2 : ∀ x : Nat × LgM, ((LDev 4 n 1 2 x.2.D (n + 5) (x.1 + 1) x.2.h 1 x.2.le x.2.l ∧ itOk x.2.sl (logD 4 n 1 2 x.2.D x.2.h 1 x.2.le x.2.l) ∧ Mine n x.2.D ∧ x.1 ≤ acts.length ∧ x.1 ≤ 60) ∧ (True)) → Sk 146 K13 ([(11, i64 x.1), (9, ptr p50), (6, dp q30), (5, i64 n), (1, lv)]) ([logG p50 c50 q30 x.2.sl (logD 4 n 1 2 x.2.D x.2.h 1 x.2.le x.2.l), dev q30 x.2.D] ++ R) := by
            rintro ⟨i, sl, D, h, le, l⟩ ⟨hI2, hX2⟩
            refine hK13 _ _ ?_
            obtain ⟨hG, ok, hmi, hi1, hi2⟩ := hI2; dsimp only at hG ok hmi hi1 hi2 ⊢; have hlim := hG.lim; have hll := hG.ll; have hh1 := hG.h1; have hht := hG.ht
            skip
            refine cseq ?_; intro K15 hK15
            refine creg ?_
            refine y (ev_assign rfl) rfl ?_
            refine ynil' (kthn (hK15 _ _ ?_))
            clear hK15
            refine cret ?_
            first
              | (exfalso; omega; done)
              | (refine kretv Try.results8 rfl (L1 := R) (by repeat first | exact .refl | exact .nil | exact .z | apply Pk.s | refine Ge.e ?_ | apply Ge.pick | apply Ge.drop) ?_
                 exact ⟨_, ⟨by first | rfl | (exfalso; simp_all; done), rfl⟩, by first | rfl | (exfalso; simp_all; done)⟩)
          clear hK13
          refine cblock ?_
          refine cloop (A := Nat × LgM) (fun x => [(11, i64 x.1), (9, ptr p50), (6, dp q30), (5, i64 n), (1, lv)]) (fun x => [logG p50 c50 q30 x.2.sl (logD 4 n 1 2 x.2.D x.2.h 1 x.2.le x.2.l), dev q30 x.2.D] ++ R) (fun x => LDev 4 n 1 2 x.2.D (n + 5) (x.1 + 1) x.2.h 1 x.2.le x.2.l ∧ itOk x.2.sl (logD 4 n 1 2 x.2.D x.2.h 1 x.2.le x.2.l) ∧ Mine n x.2.D ∧ x.1 ≤ acts.length ∧ x.1 ≤ 60) (fun x => 60 - x.1) ((0, ⟨s50, D1, 1, 0, []⟩)) ?_ (by repeat first | exact sub_nil | refine sub_cons rfl ?_ | refine sub_cons' rfl (by simp) ?_) (by repeat first | exact .refl | exact .nil | exact .z | apply Pk.s | refine Ge.e ?_ | apply Ge.pick | apply Ge.drop) ?_
          · exact ⟨hG1, ok50, hmine1, Nat.zero_le _, Nat.zero_le _⟩
          rintro ⟨i, sl, D, h, le, l⟩ hI2 KL2 hL2
          have hI2o := hI2
          obtain ⟨hG, ok, hmi, hi1, hi2⟩ := hI2; dsimp only at hG ok hmi hi1 hi2 ⊢; have hlim := hG.lim; have hll := hG.ll; have hh1 := hG.h1; have hht := hG.ht
          refine cseq ?_; intro K16 hK16
          refine cseq ?_; intro K17 hK17
          refine creg ?_
          refine y (ev_move rfl) rfl ?_
          refine y (ev_move rfl) rfl ?_
          first
            | refine y (ev_len rfl Try.underlying55) rfl ?_
            | refine y (ev_lenSv rfl Try.underlying55 (by assumption)) rfl ?_
            | refine y (ev_lenV rfl Try.underlying55 (RdV.lenVal (by assumption))) rfl ?_
            | refine y (ev_lenV rfl Try.underlying55 (RdB.lenVal (by assumption))) rfl ?_
          refine y (ev_lss rfl rfl) rfl ?_
          refine y (ev_move rfl) rfl ?_
          refine ysplit 59 rfl (fun h37 => ?_) (fun h37 => ?_)
          · (try simp only [decide_eq_true_eq, beq_iff_eq, beq_eq_false_iff_ne, decide_eq_decide, decide_eq_false_iff_not, Bool.not_eq_true', Bool.not_eq_false', Bool.not_eq_true, Bool.not_eq_false, Bool.not_not, ne_eq, Option.isNone_some, Option.isSome_some, Option.isNone_none, Option.isSome_none] at h37)
            refine yg1 rfl rfl ?_
            refine y (ev_move rfl) rfl ?_
            refine yg1 rfl rfl ?_
            refine y (ev_lss rfl rfl) rfl ?_
            refine y (ev_pick1 rfl rfl) rfl ?_
            refine ynil' (kthn (hK17 _ _ ?_))
            clear hK17
            refine ccond rfl (fun h41 => ?_) (fun h41 => ?_)
            · (try simp only [decide_eq_true_eq, beq_iff_eq, beq_eq_false_iff_ne, decide_eq_decide, decide_eq_false_iff_not, Bool.not_eq_true', Bool.not_eq_false', Bool.not_eq_true, Bool.not_eq_false, Bool.not_not, ne_eq, Option.isNone_some, Option.isSome_some, Option.isNone_none, Option.isSome_none] at h41)
              refine cskip' (kthn (hK16 _ _ ?_))
              clear hK16
              refine cseq ?_; intro K18 hK18
              have hJr17 : ∀ x : LgM, (LDev 4 n 1 2 x.D (n + 5) (i + 2) x.h 1 x.le x.l ∧ itOk x.sl (logD 4 n 1 2 x.D x.h 1 x.le x.l) ∧ Mine n x.D) → Sk 146 K18 ([(11, i64 i), (9, ptr p50), (6, dp q30), (5, i64 n), (1, lv)]) ([logG p50 c50 q30 x.sl (logD 4 n 1 2 x.D x.h 1 x.le x.l), dev q30 x.D] ++ R) := by
                rintro ⟨sl, D, h, le, l⟩ hIr17
                refine hK18 _ _ ?_
                obtain ⟨hG, ok, hmi⟩ := hIr17; dsimp only at hG ok hmi ⊢; have hi3 : i < 60 ∧ i < acts.length := by omega
                refine creg ?_
                refine y (ev_move rfl) rfl ?_
                refine y (ev_add rfl rfl) rfl ?_
                rw [show IntKind.i64.wrap ((i:Int) + 1) = ((i+1 : Nat) : Int) by rw [wr (by omega) (by omega)]; rfl]
                refine y (ev_assign rfl) rfl ?_
                refine ynil' (kthn ?_)
                exact hL2 ((i + 1, ⟨sl, D, h, le, l⟩)) (⟨hG, ok, hmi, by dsimp only; omega, by dsimp only; omega⟩) (by dsimp only; omega) _ _ (by repeat first | exact sub_nil | refine sub_cons rfl ?_ | refine sub_cons' rfl (by simp) ?_) (by repeat first | exact .refl | exact .nil | exact .z | apply Pk.s | refine Ge.e ?_ | apply Ge.pick | apply Ge.drop)
              clear hK18
              refine cblock ?_
              refine cseq ?_; intro K19 hK19
              refine creg ?_
              obtain ⟨a, hka⟩ : ∃ a, acts[i]? = some a := ⟨_, List.getElem?_eq_getElem (by omega)⟩
              have hact := haa a (List.mem_of_getElem? hka)
              refine y (ev_move rfl) rfl ?_
              refine y (ev_move rfl) rfl ?_
              refine y (ev_ixV hl rfl rfl Try.underlying55 Try.sizeOf58 (by omega) (by omega)) rfl ?_
              refine y (ev_loadNV (us := a.cells) (i * 4) hl (by repeat first | exact .refl | exact .nil | exact .z | apply Pk.s | refine Ge.e ?_ | apply Ge.pick | apply Ge.drop) rfl Try.isAgg58 Try.sizeOf58 (by simp) (actlsV_get hka) rfl) rfl ?_
              refine ya (ac_alloc Try.zeroValue58 rfl) rfl ?_
              rintro v L' ⟨b12, rfl, rfl⟩
              refine ya0 (ac_storeAll rfl rfl hact.one Try.sizeOf58 (by repeat first | exact .z | apply Rp.s) (by rfl) (by rfl)) ?_
              rintro v L' ⟨rfl, rfl⟩
              refine ynil' (kthn (hK19 _ _ ?_))
              clear hK19
              refine cseq ?_; intro K20 hK20
              refine cseq ?_; intro K21 hK21
              refine creg ?_
              refine y (ev_loadN (u := a.cells) rfl Try.isAgg58 Try.sizeOf58 (by repeat first | exact .z | apply In.s) rfl rfl) rfl ?_
              refine ycall (nLarge (x := a) ?lx52) rfl Try.call34 (by repeat first | exact .nil | exact .z | apply Pk.s | apply Tk.cons) rfl ?_
              case lx52 => exact hact.mono (by repeat first | exact .refl | exact .nil | exact .z | apply Pk.s | refine Ge.e ?_ | apply Ge.pick | apply Ge.drop)
              rintro v L' ⟨big70, rfl, hbig70, rfl⟩
              refine ynil' (kthn (hK21 _ _ ?_))
              clear hK21
              refine ccond rfl (fun h53 => ?_) (fun h53 => ?_)
              · (try simp only [decide_eq_true_eq, beq_iff_eq, beq_eq_false_iff_ne, decide_eq_decide, decide_eq_false_iff_not, Bool.not_eq_true', Bool.not_eq_false', Bool.not_eq_true, Bool.not_eq_false, Bool.not_not, ne_eq, Option.isNone_some, Option.isSome_some, Option.isNone_none, Option.isSome_none] at h53)
                refine cseq ?_; intro K22 hK22
                refine creg ?_
                refine y (ev_assign rfl) rfl ?_
                refine ynil' (kthn (hK22 _ _ ?_))
                clear hK22
                refine cret (kthr (kbr (kthr (kthr (kbr (kthr ?_))))))
                first
                  | (exfalso; omega; done)
                  | (refine kretv Try.results8 rfl (L1 := R) (by repeat first | exact .refl | exact .nil | exact .z | apply Pk.s | refine Ge.e ?_ | apply Ge.pick | apply Ge.drop) ?_
                     exact ⟨_, ⟨by first | rfl | (exfalso; simp_all; done), rfl⟩, by first | rfl | (exfalso; simp_all; done)⟩)
              · (try simp only [decide_eq_true_eq, beq_iff_eq, beq_eq_false_iff_ne, decide_eq_decide, decide_eq_false_iff_not, Bool.not_eq_true', Bool.not_eq_false', Bool.not_eq_true, Bool.not_eq_false, Bool.not_not, ne_eq, Option.isNone_some, Option.isSome_some, Option.isNone_none, Option.isSome_none] at h53)
                refine cskip' (kthn (hK20 _ _ ?_))
                clear hK20
                refine cseq ?_; intro K23 hK23
                refine creg ?_
                refine y (ev_move rfl) rfl ?_
                refine ycall (nSectors ?na56 ?nb56) rfl Try.call36 (by repeat first | exact .nil | exact .z | apply Pk.s | apply Tk.cons) rfl ?_
                case na56 => first | exact hG.up.ok | exact hG82.up.ok
                case nb56 => first | exact hG.up.live | exact hG82.up.live
                rintro v L' ⟨s72, rfl, ok72, rfl⟩
                refine y (ev_assign rfl) rfl ?_
                refine ynil' (kthn (hK23 _ _ ?_))
                clear hK23
                refine cseq ?_; intro K24 hK24
                refine creg ?_
                refine y (ev_move rfl) rfl ?_
                refine ycall (bRecords ?ra59 ?rb59) rfl Try.call31 (by repeat first | exact .nil | exact .z | apply Pk.s | apply Tk.cons) rfl ?_
                case ra59 => assumption
                case rb59 => first | (show l.length ≤ 512; omega) | (show l82.length ≤ 512; omega)
                rintro v L' ⟨s74, rfl, ok74, rfl⟩
                refine y (ev_assign rfl) rfl ?_
                refine ynil' (kthn (hK24 _ _ ?_))
                clear hK24
                refine cseq ?_; intro K25 hK25
                have hJr39 : ∀ x : LgM, (LDev 4 n 1 2 x.D (n + 5) (i + 2) x.h 1 x.le x.l ∧ itOk x.sl (logD 4 n 1 2 x.D x.h 1 x.le x.l) ∧ Mine n x.D) → Sk 146 K25 ([(11, i64 i), (9, ptr p50), (6, dp q30), (5, i64 n), (1, lv)]) ([logG p50 c50 q30 x.sl (logD 4 n 1 2 x.D x.h 1 x.le x.l), dev q30 x.D] ++ R) := by
                  rintro ⟨sl, D, h, le, l⟩ hIr39
                  refine hK25 _ _ ?_
                  have hj := hIr39; obtain ⟨hG, ok, hmi⟩ := hIr39; dsimp only at hG ok hmi ⊢
                  refine cseq ?_; intro K26 hK26
                  refine creg ?_
                  refine y (ev_move rfl) rfl ?_
                  refine y (ev_add rfl rfl) rfl ?_
                  rw [wr (by omega) (by omega)]
                  refine ya (ac_bsliceR rfl Try.underlying32 Try.sizeOf3 Try.zeroValue3 rfl rfl rfl rfl ⟨⟨_, _, rfl, (by first | rfl | simp), (by first | decide | simp)⟩, ⟨⟨_, _, rfl, (by first | rfl | simp), (by first | decide | simp)⟩, ⟨⟨_, _, rfl, (by first | rfl | simp), (by first | decide | simp)⟩, trivial⟩⟩⟩ (by dsimp [fillL, splice, vcells, reps] <;> rfl)) rfl ?_
                  rintro v L' ⟨b129, rfl, rfl⟩
                  first
                    | refine y (ev_len rfl Try.underlying32) rfl ?_
                    | refine y (ev_lenSv rfl Try.underlying32 (by assumption)) rfl ?_
                    | refine y (ev_lenV rfl Try.underlying32 (RdV.lenVal (by assumption))) rfl ?_
                    | refine y (ev_lenV rfl Try.underlying32 (RdB.lenVal (by assumption))) rfl ?_
                  refine y (ev_move rfl) rfl ?_
                  refine ynil' (kthn (hK26 _ _ ?_))
                  clear hK26
                  refine cblock ?_
                  refine cloop (A := Nat) (fun x => [(131, i64 x), (130, i64 3), (129, .slice (some ⟨b129, 0, none⟩) 3 3), (11, i64 i), (9, ptr p50), (6, dp q30), (5, i64 n), (1, lv)]) (fun x => [sc b129 (intsV (mineK n)) 3, logG p50 c50 q30 sl (logD 4 n 1 2 D h 1 le l), dev q30 D] ++ R) (fun x => x ≤ 3) (fun x => 3 - x) (0) ?_ (by repeat first | exact sub_nil | refine sub_cons rfl ?_ | refine sub_cons' rfl (by simp) ?_) (by repeat first | exact .refl | exact .nil | exact .z | apply Pk.s | refine Ge.e ?_ | apply Ge.pick | apply Ge.drop) ?_
                  · exact Nat.zero_le _
                  rintro k hI4 KL4 hL4
                  have hI4o := hI4
                  have hk := hI4; have hrd : RdV [sc b129 (intsV (mineK n)) 3] (.slice (some ⟨b129, 0, none⟩) 3 3) 3 (intsV (mineK n)) := rdV_in .z rfl rfl
                  refine cseq ?_; intro K27 hK27
                  refine creg ?_
                  refine y (ev_lss rfl rfl) rfl ?_
                  refine ynil' (kthn (hK27 _ _ ?_))
                  clear hK27
                  refine cseq ?_; intro K28 hK28
                  refine ccond rfl (fun h67 => ?_) (fun h67 => ?_)
                  · (try simp only [decide_eq_true_eq, beq_iff_eq, beq_eq_false_iff_ne, decide_eq_decide, decide_eq_false_iff_not, Bool.not_eq_true', Bool.not_eq_false', Bool.not_eq_true, Bool.not_eq_false, Bool.not_not, ne_eq, Option.isNone_some, Option.isSome_some, Option.isNone_none, Option.isSome_none] at h67)
                    obtain ⟨z, hz⟩ : ∃ z, (mineK n)[k]? = some z := ⟨_, List.getElem?_eq_getElem (by show k < 3; omega)⟩
                    have hzm := hmi z (List.mem_of_getElem? hz)
                    have hzi := mineK_in n2 (List.mem_of_getElem? hz)
                    have hh0 : D.has z = 0 := by rw [hG.up.has, if_neg (by omega)]
                    refine cskip' (kthn (hK28 _ _ ?_))
                    clear hK28
                    refine cseq ?_; intro K29 hK29
                    refine cblock ?_
                    refine cseq ?_; intro K30 hK30
                    refine creg ?_
                    refine y (ev_ixV hrd rfl rfl Try.underlying32 Try.sizeOf3 (by omega) (by omega)) rfl ?_
                    refine y (ev_loadV k hrd (by repeat first | exact .refl | exact .nil | exact .z | apply Pk.s | refine Ge.e ?_ | apply Ge.pick | apply Ge.drop) rfl Try.isAgg3 (by simp) (intsV_get hz)) rfl ?_
                    refine y (ev_assign rfl) rfl ?_
                    refine ynil' (kthn (hK30 _ _ ?_))
                    clear hK30
                    refine cseq ?_; intro K31 hK31
                    refine creg ?_
                    refine y (ev_move rfl) rfl ?_
                    refine y (ev_move rfl) rfl ?_
                    refine ycall (secReadS hG.up.ok hh0) rfl Try.call38 (by repeat first | exact .nil | exact .z | apply Pk.s | apply Tk.cons) rfl ?_
                    rintro v L' ⟨s138, rfl, ok138, rfl⟩
                    rw [hzm] at ok138 ⊢
                    have hpt := mine_take
                    have hpl : (pad mine).length = 144 := by rw [← hzm]; exact sec_length hG.up.ok _
                    generalize pad mine = pm at *
                    have hy : RdY [svSeg s138 5 (bytesV pm)] (svVal s138 pm.length) pm := rdY_sv .z ok138
                    have hy4 := hy.sl (lo := 0) (hi := 4) (by decide) (by omega)
                    rw [Nat.sub_zero, List.drop_zero, hpt] at hy4
                    refine y (ev_move rfl) rfl ?_
                    refine y (ev_extract rfl rfl) rfl ?_
                    refine y (ev_extract rfl rfl) rfl ?_
                    refine y (ev_assign rfl) rfl ?_
                    refine y (ev_assign rfl) rfl ?_
                    refine ynil' (kthn (hK31 _ _ ?_))
                    clear hK31
                    refine cseq ?_; intro K32 hK32
                    refine creg ?_
                    refine y (ev_move rfl) rfl ?_
                    refine y (ev_slHV hy.rd hy.cap rfl rfl Try.underlying22 Try.sizeOf5 (by decide) (by omega)) rfl ?_
                    refine y (ev_toStrB hy4.rd.bytes (by repeat first | exact .refl | exact .nil | exact .z | apply Pk.s | refine Ge.e ?_ | apply Ge.pick | apply Ge.drop) rfl Try.underlying22 Try.underlying9 Try.underlying5) rfl ?_
                    refine y (ev_neqL (p := mine) (q := [109, 105, 110, 101]) rfl rfl) rfl ?_
                    refine ynil' (kthn (hK32 _ _ ?_))
                    clear hK32
                    refine ccond rfl (fun h83 => ?_) (fun h83 => ?_)
                    · (try simp only [decide_eq_true_eq, beq_iff_eq, beq_eq_false_iff_ne, decide_eq_decide, decide_eq_false_iff_not, Bool.not_eq_true', Bool.not_eq_false', Bool.not_eq_true, Bool.not_eq_false, Bool.not_not, ne_eq, Option.isNone_some, Option.isSome_some, Option.isNone_none, Option.isSome_none] at h83)
                      exact absurd rfl h83
                    · (try simp only [decide_eq_true_eq, beq_iff_eq, beq_eq_false_iff_ne, decide_eq_decide, decide_eq_false_iff_not, Bool.not_eq_true', Bool.not_eq_false', Bool.not_eq_true, Bool.not_eq_false, Bool.not_not, ne_eq, Option.isNone_some, Option.isSome_some, Option.isNone_none, Option.isSome_none] at h83)
                      refine cskip' (kbn (kthn (hK29 _ _ ?_)))
                      clear hK29
                      refine creg ?_
                      refine y (ev_add rfl rfl) rfl ?_
                      rw [show IntKind.i64.wrap ((k:Int) + 1) = ((k+1 : Nat) : Int) by rw [wr (by omega) (by omega)]; rfl]
                      refine y (ev_move rfl) rfl ?_
                      refine ynil' (kthn ?_)
                      exact hL4 (k + 1) (by omega) (by omega) _ _ (by repeat first | exact sub_nil | refine sub_cons rfl ?_ | refine sub_cons' rfl (by simp) ?_) (by repeat first | exact .refl | exact .nil | exact .z | apply Pk.s | refine Ge.e ?_ | apply Ge.pick | apply Ge.drop)
                  · (try simp only [decide_eq_true_eq, beq_iff_eq, beq_eq_false_iff_ne, decide_eq_decide, decide_eq_false_iff_not, Bool.not_eq_true', Bool.not_eq_false', Bool.not_eq_true, Bool.not_eq_false, Bool.not_not, ne_eq, Option.isNone_some, Option.isSome_some, Option.isNone_none, Option.isSome_none] at h67)
                    refine cexit (kthx (kthx (kbx (kbn (kthn ?_)))))
                    exact ksub (by repeat first | exact sub_nil | refine sub_cons rfl ?_ | refine sub_cons' rfl (by simp) ?_) (by repeat first | exact .refl | exact .nil | exact .z | apply Pk.s | refine Ge.e ?_ | apply Ge.pick | apply Ge.drop) (hJr17 ⟨_, _, _, _, _⟩ hj)
                clear hK25
                refine cseq ?_; intro K33 hK33
                refine creg ?_
                refine y (ev_fieldAddr 0 rfl Try.underlying58 rfl Try.sizeOf3) rfl ?_
                refine y (ev_load rfl Try.isAgg3 (by repeat first | exact .z | apply In.s) rfl) rfl ?_
                refine ynil' (kthn (hK33 _ _ ?_))
                clear hK33
                refine cblock ?_
                refine cseq ?_; intro K34 hK34
                refine creg ?_
                refine y (ev_eql rfl rfl) rfl ?_
                refine y (ev_assign rfl) rfl ?_
                refine ynil' (kthn (hK34 _ _ ?_))
                clear hK34
                refine ccond rfl (fun h90 => ?_) (fun h90 => ?_)
                · (try simp only [decide_eq_true_eq, beq_iff_eq, beq_eq_false_iff_ne, decide_eq_decide, decide_eq_false_iff_not, Bool.not_eq_true', Bool.not_eq_false', Bool.not_eq_true, Bool.not_eq_false, Bool.not_not, ne_eq, Option.isNone_some, Option.isSome_some, Option.isNone_none, Option.isSome_none] at h90)
                  refine cseq ?_; intro K35 hK35
                  refine cseq ?_; intro K36 hK36
                  refine creg ?_
                  refine y (ev_move rfl) rfl ?_
                  refine y (ev_fieldAddr 2 rfl Try.underlying58 rfl Try.sizeOf9) rfl ?_
                  refine y (ev_load rfl Try.isAgg9 (by repeat first | exact .z | apply In.s) rfl) rfl ?_
                  refine ycall (gAppend (s := a.s) (N := n + 5) (k := i + 1) ?ag94 ?ak94 ?as94) rfl Try.call27 (by repeat first | exact .nil | exact .z | apply Pk.s | apply Tk.cons) rfl ?_
                  case ag94 => exact hG
                  case ak94 => omega
                  case as94 => exact ok
                  rintro v L' ⟨s82, D82, l82, rfl, hG82, hl82, hf82, hz82, ok82, rfl⟩
                  have hm0 := Int.emod_nonneg (h + l.length) (show (n : Int) ≠ 0 by omega); have hm1 := Int.emod_lt_of_pos (h + l.length) (show (0 : Int) < n by omega)
                  have hmi2 := hmi.same (fun k hk => hf82 k (by have := mineK_in n2 hk; unfold inRing at this; omega))
                  have hj := And.intro hG82 (And.intro ok82 hmi2)
                  have hll2 := hG82.ll
                  refine y (ev_neq rfl rfl) rfl ?_
                  refine ynil' (kthn (hK36 _ _ ?_))
                  clear hK36
                  refine ccond rfl (fun h96 => ?_) (fun h96 => ?_)
                  · (try simp only [decide_eq_true_eq, beq_iff_eq, beq_eq_false_iff_ne, decide_eq_decide, decide_eq_false_iff_not, Bool.not_eq_true', Bool.not_eq_false', Bool.not_eq_true, Bool.not_eq_false, Bool.not_not, ne_eq, Option.isNone_some, Option.isSome_some, Option.isNone_none, Option.isSome_none] at h96)
                    refine cexit (kthx (kbp rfl (kthx (kbx (kthn ?_)))))
                    exact ksub (by repeat first | exact sub_nil | refine sub_cons rfl ?_ | refine sub_cons' rfl (by simp) ?_) (by repeat first | exact .refl | exact .nil | exact .z | apply Pk.s | refine Ge.e ?_ | apply Ge.pick | apply Ge.drop) (hJr17 ⟨_, _, _, _, _⟩ hj)
                  · (try simp only [decide_eq_true_eq, beq_iff_eq, beq_eq_false_iff_ne, decide_eq_decide, decide_eq_false_iff_not, Bool.not_eq_true', Bool.not_eq_false', Bool.not_eq_true, Bool.not_eq_false, Bool.not_not, ne_eq, Option.isNone_some, Option.isSome_some, Option.isNone_none, Option.isSome_none] at h96)
                    have hc1 : ¬ 110 < (a.s.length : Int) := fun hc => by rw [if_pos hc] at h96; omega
                    rw [if_neg hc1] at h96
                    have hc2 : ¬ n = l.length := fun hc => by rw [if_pos hc] at h96; omega
                    rw [if_pos ⟨by omega, by omega⟩] at hl82
                    obtain ⟨P, hP⟩ : ∃ P : Int, (4 : Int) + (h + l.length) % n = P := ⟨_, rfl⟩
                    rw [hP] at hf82
                    refine cskip' (kthn (hK35 _ _ ?_))
                    clear hK35
                    refine cseq ?_; intro K37 hK37
                    refine creg ?_
                    refine y (ev_assign rfl) rfl ?_
                    refine ynil' (kthn (hK37 _ _ ?_))
                    clear hK37
                    refine cseq ?_; intro K38 hK38
                    refine cseq ?_; intro K39 hK39
                    refine creg ?_
                    refine y (ev_move rfl) rfl ?_
                    refine ycall (nSectors ?na99 ?nb99) rfl Try.call36 (by repeat first | exact .nil | exact .z | apply Pk.s | apply Tk.cons) rfl ?_
                    case na99 => first | exact hG.up.ok | exact hG82.up.ok
                    case nb99 => first | exact hG.up.live | exact hG82.up.live
                    rintro v L' ⟨s85, rfl, ok85, rfl⟩
                    refine y (ev_lenSv rfl Try.underlying45 ok85) rfl ?_
                    rw [show (((secsOf D82 D82.l.length).length : Nat) : Int) = ((n + 5 : Nat) : Int) by rw [secsOf_len, hG82.up.len]]
                    refine y (ev_move rfl) rfl ?_
                    refine ynil' (kthn (hK39 _ _ ?_))
                    clear hK39
                    have hJ3 : ∀ x : Nat × Nat, ((x.1 ≤ n + 5 ∧ x.2 ≤ 1 ∧ (x.1 ≤ P → x.2 = 0)) ∧ (x.1 = n + 5)) → Sk 146 K38 ([(87, i64 x.1), (86, i64 (n + 5 : Nat)), (85, svVal s85 (secsOf D82 D82.l.length).length), (15, i64 x.2), (13, svVal s72 (secsOf D D.l.length).length), (14, svVal s74 (l.map (·.1)).length), (11, i64 i), (9, ptr p50), (6, dp q30), (5, i64 n), (1, lv)]) ([svSeg s85 9 (strsV (secsOf D82 D82.l.length)), svSeg s72 9 (strsV (secsOf D D.l.length)), svSeg s74 9 (strsV (l.map (·.1))), logG p50 c50 q30 s82 (logD 4 n 1 2 D82 h 1 le l82), dev q30 D82] ++ R) := by
                      rintro ⟨k, u⟩ ⟨hI3, hX3⟩
                      refine hK38 _ _ ?_
                      obtain ⟨hk, hu, hku⟩ := hI3; dsimp only at hk hu hku ⊢
                      have e1 : D.l.length = n + 5 := hG.up.len
                      have e2 : D82.l.length = n + 5 := hG82.up.len
                      have e3 := secsOf_len D (n + 5)
                      have e4 := secsOf_len D82 (n + 5)
                      have h72 : RdV [svSeg s72 9 (strsV (secsOf D D.l.length))] (svVal s72 (secsOf D D.l.length).length) (secsOf D D.l.length).length (strsV (secsOf D D.l.length)) := rdV_sv .z ok72
                      have h85 : RdV [svSeg s85 9 (strsV (secsOf D82 D82.l.length))] (svVal s85 (secsOf D82 D82.l.length).length) (secsOf D82 D82.l.length).length (strsV (secsOf D82 D82.l.length)) := rdV_sv .z ok85
                      have h74 : RdV [svSeg s74 9 (strsV (l.map (·.1)))] (svVal s74 (l.map (·.1)).length) (l.map (·.1)).length (strsV (l.map (·.1))) := rdV_sv .z ok74
                      skip
                      refine cseq ?_; intro K40 hK40
                      refine creg ?_
                      refine y (ev_move rfl) rfl ?_
                      skip
                      · skip
                        refine y (ev_gtr rfl rfl) rfl ?_
                        rw [show (decide ((u : Int) > 1)) = false by simp; omega]
                        refine y (ev_move rfl) rfl ?_
                        refine yg1 rfl rfl ?_
                        refine y (ev_move rfl) rfl ?_
                        refine yg1 rfl rfl ?_
                        refine ycall (bRecords ?ra106 ?rb106) rfl Try.call31 (by repeat first | exact .nil | exact .z | apply Pk.s | apply Tk.cons) rfl ?_
                        case ra106 => assumption
                        case rb106 => first | (show l.length ≤ 512; omega) | (show l82.length ≤ 512; omega)
                        rintro v L' ⟨s105, rfl, ok105, rfl⟩
                        have h105 : RdV [svSeg s105 9 (strsV (l82.map (·.1)))] (svVal s105 (l82.map (·.1)).length) (l82.map (·.1)).length (strsV (l82.map (·.1))) := rdV_sv .z ok105
                        have hl83 : l82.length = l.length + 1 := by rw [hl82]; simp
                        have h108 := h105.sl (svCap ok105) (s := 1) (lo := 0) (hi := (l.map (·.1)).length) (Nat.zero_le _) (by simp; omega) (by simp [strsV])
                        rw [Nat.zero_mul, List.drop_zero, Nat.sub_zero, Nat.mul_one, show (strsV (l82.map (·.1))).take (l.map (·.1)).length = strsV (l.map (·.1)) by rw [hl82]; simp [strsV, ← List.map_take]] at h108
                        refine yg1 rfl rfl ?_
                        refine y (ev_move rfl) rfl ?_
                        refine yg1 rfl rfl ?_
                        refine y (ev_lenSv rfl Try.underlying45 ok74) rfl ?_
                        refine yg1 rfl rfl ?_
                        refine y (ev_slHV (L := _) h105 (svCap ok105) rfl rfl Try.underlying45 Try.sizeOf9 (by omega) (by simp only [List.length_map]; omega)) rfl ?_
                        refine yg1 rfl rfl ?_
                        refine y (ev_move rfl) rfl ?_
                        refine yg1 rfl rfl ?_
                        refine ycall (nSame (u1 := l.map (·.1)) (u2 := l.map (·.1)) ?ia111 ?ib111 ?ic111) rfl Try.call30 (by repeat first | exact .nil | exact .z | apply Pk.s | apply Tk.cons) rfl ?_
                        case ia111 => exact h108.mono (by repeat first | exact .refl | exact .nil | exact .z | apply Pk.s | refine Ge.e ?_ | apply Ge.pick | apply Ge.drop)
                        case ib111 => exact h74.mono (by repeat first | exact .refl | exact .nil | exact .z | apply Pk.s | refine Ge.e ?_ | apply Ge.pick | apply Ge.drop)
                        case ic111 => (simp; omega)
                        rintro v L' ⟨rfl, rfl⟩
                        rw [show (decide (l.map (·.1) = l.map (·.1))) = true by simp]
                        refine yg1 rfl rfl ?_
                        refine y (ev_not rfl) rfl ?_
                        refine y (ev_pick0 rfl rfl) rfl ?_
                        refine ynil' (kthn (hK40 _ _ ?_))
                        clear hK40
                        refine ccond0 rfl ?_
                        refine cskip' (kbn (kthn ?_))
                        exact ksub (by repeat first | exact sub_nil | refine sub_cons rfl ?_ | refine sub_cons' rfl (by simp) ?_) (by repeat first | exact .refl | exact .nil | exact .z | apply Pk.s | refine Ge.e ?_ | apply Ge.pick | apply Ge.drop) (hJr39 ⟨_, _, _, _, _⟩ hj)
                    clear hK38
                    refine cblock ?_
                    refine cloop (A := Nat × Nat) (fun x => [(87, i64 x.1), (86, i64 (n + 5 : Nat)), (85, svVal s85 (secsOf D82 D82.l.length).length), (15, i64 x.2), (13, svVal s72 (secsOf D D.l.length).length), (14, svVal s74 (l.map (·.1)).length), (11, i64 i), (9, ptr p50), (6, dp q30), (5, i64 n), (1, lv)]) (fun x => [svSeg s85 9 (strsV (secsOf D82 D82.l.length)), svSeg s72 9 (strsV (secsOf D D.l.length)), svSeg s74 9 (strsV (l.map (·.1))), logG p50 c50 q30 s82 (logD 4 n 1 2 D82 h 1 le l82), dev q30 D82] ++ R) (fun x => x.1 ≤ n + 5 ∧ x.2 ≤ 1 ∧ (x.1 ≤ P → x.2 = 0)) (fun x => n + 5 - x.1) ((0, 0)) ?_ (by repeat first | exact sub_nil | refine sub_cons rfl ?_ | refine sub_cons' rfl (by simp) ?_) (by repeat first | exact .refl | exact .nil | exact .z | apply Pk.s | refine Ge.e ?_ | apply Ge.pick | apply Ge.drop) ?_
                    · exact ⟨Nat.zero_le _, Nat.zero_le _, fun _ => rfl⟩
                    rintro ⟨k, u⟩ hI3 KL3 hL3
                    have hI3o := hI3
                    obtain ⟨hk, hu, hku⟩ := hI3; dsimp only at hk hu hku ⊢
                    have e1 : D.l.length = n + 5 := hG.up.len
                    have e2 : D82.l.length = n + 5 := hG82.up.len
                    have e3 := secsOf_len D (n + 5)
                    have e4 := secsOf_len D82 (n + 5)
                    have h72 : RdV [svSeg s72 9 (strsV (secsOf D D.l.length))] (svVal s72 (secsOf D D.l.length).length) (secsOf D D.l.length).length (strsV (secsOf D D.l.length)) := rdV_sv .z ok72
                    have h85 : RdV [svSeg s85 9 (strsV (secsOf D82 D82.l.length))] (svVal s85 (secsOf D82 D82.l.length).length) (secsOf D82 D82.l.length).length (strsV (secsOf D82 D82.l.length)) := rdV_sv .z ok85
                    have h74 : RdV [svSeg s74 9 (strsV (l.map (·.1)))] (svVal s74 (l.map (·.1)).length) (l.map (·.1)).length (strsV (l.map (·.1))) := rdV_sv .z ok74
                    refine cseq ?_; intro K41 hK41
                    refine creg ?_
                    refine y (ev_lss rfl rfl) rfl ?_
                    refine ynil' (kthn (hK41 _ _ ?_))
                    clear hK41
                    refine cseq ?_; intro K42 hK42
                    refine ccond rfl (fun h115 => ?_) (fun h115 => ?_)
                    · (try simp only [decide_eq_true_eq, beq_iff_eq, beq_eq_false_iff_ne, decide_eq_decide, decide_eq_false_iff_not, Bool.not_eq_true', Bool.not_eq_false', Bool.not_eq_true, Bool.not_eq_false, Bool.not_not, ne_eq, Option.isNone_some, Option.isSome_some, Option.isNone_none, Option.isSome_none] at h115)
                      have g1 : (secsOf D D.l.length)[k]? = some (D.sec (k : Nat)) := secsOf_get (by omega)
                      have g2 : (secsOf D82 D82.l.length)[k]? = some (D82.sec (k : Nat)) := secsOf_get (by omega)
                      refine cskip' (kthn (hK42 _ _ ?_))
                      clear hK42
                      refine cseq ?_; intro K43 hK43
                      have hJr32 : ∀ x : Nat, (x ≤ 1 ∧ (((k + 1 : Nat) : Int) ≤ P → x = 0)) → Sk 146 K43 ([(87, i64 k), (86, i64 (n + 5 : Nat)), (85, svVal s85 (secsOf D82 D82.l.length).length), (15, i64 x), (13, svVal s72 (secsOf D D.l.length).length), (14, svVal s74 (l.map (·.1)).length), (11, i64 i), (9, ptr p50), (6, dp q30), (5, i64 n), (1, lv)]) ([svSeg s85 9 (strsV (secsOf D82 D82.l.length)), svSeg s72 9 (strsV (secsOf D D.l.length)), svSeg s74 9 (strsV (l.map (·.1))), logG p50 c50 q30 s82 (logD 4 n 1 2 D82 h 1 le l82), dev q30 D82] ++ R) := by
                        rintro u hIr32
                        refine hK43 _ _ ?_
                        obtain ⟨hu, hku⟩ := hIr32
                        refine creg ?_
                        refine y (ev_add rfl rfl) rfl ?_
                        rw [show IntKind.i64.wrap ((k:Int) + 1) = ((k+1 : Nat) : Int) by rw [wr (by omega) (by omega)]; rfl]
                        refine y (ev_move rfl) rfl ?_
                        refine ynil' (kthn ?_)
                        exact hL3 ((k + 1, u)) (⟨by dsimp only; omega, hu, hku⟩) (by dsimp only; omega) _ _ (by repeat first | exact sub_nil | refine sub_cons rfl ?_ | refine sub_cons' rfl (by simp) ?_) (by repeat first | exact .refl | exact .nil | exact .z | apply Pk.s | refine Ge.e ?_ | apply Ge.pick | apply Ge.drop)
                      clear hK43
                      refine cblock ?_
                      refine cseq ?_; intro K44 hK44
                      refine creg ?_
                      refine y (ev_move rfl) rfl ?_
                      refine y (ev_ixV h85 rfl rfl Try.underlying45 Try.sizeOf9 (by omega) (by rw [e2, e4]; omega)) rfl ?_
                      refine y (ev_loadV k h85 (by repeat first | exact .refl | exact .nil | exact .z | apply Pk.s | refine Ge.e ?_ | apply Ge.pick | apply Ge.drop) rfl Try.isAgg9 (by simp) (strsV_get g2)) rfl ?_
                      refine y (ev_assign rfl) rfl ?_
                      refine y (ev_assign rfl) rfl ?_
                      refine ynil' (kthn (hK44 _ _ ?_))
                      clear hK44
                      refine cseq ?_; intro K45 hK45
                      refine creg ?_
                      refine y (ev_move rfl) rfl ?_
                      refine y (ev_move rfl) rfl ?_
                      refine y (ev_move rfl) rfl ?_
                      refine y (ev_ixV h72 rfl rfl Try.underlying45 Try.sizeOf9 (by omega) (by rw [e1, e3]; omega)) rfl ?_
                      refine y (ev_loadV k h72 (by repeat first | exact .refl | exact .nil | exact .z | apply Pk.s | refine Ge.e ?_ | apply Ge.pick | apply Ge.drop) rfl Try.isAgg9 (by simp) (strsV_get g1)) rfl ?_
                      first
                        | refine y (ev_neqL rfl rfl) rfl ?_
                        | refine y (ev_neqS rfl rfl) rfl ?_
                      refine ynil' (kthn (hK45 _ _ ?_))
                      clear hK45
                      refine ccond rfl (fun h129 => ?_) (fun h129 => ?_)
                      · (try simp only [decide_eq_true_eq, beq_iff_eq, beq_eq_false_iff_ne, decide_eq_decide, decide_eq_false_iff_not, Bool.not_eq_true', Bool.not_eq_false', Bool.not_eq_true, Bool.not_eq_false, Bool.not_not, ne_eq, Option.isNone_some, Option.isSome_some, Option.isNone_none, Option.isSome_none] at h129)
                        have hkP : (k : Int) = P := Decidable.byContradiction fun hc => h129 (hf82 k hc)
                        obtain rfl : u = 0 := hku (by omega)
                        have hju : 1 ≤ 1 ∧ (((k + 1 : Nat) : Int) ≤ P → 1 = 0) := ⟨Nat.le_refl _, fun hc => by omega⟩
                        refine creg ?_
                        refine y (ev_move rfl) rfl ?_
                        refine y (ev_add rfl rfl) rfl ?_
                        rw [show IntKind.i64.wrap (((0 : Nat) : Int) + 1) = ((1 : Nat) : Int) from rfl]
                        refine y (ev_assign rfl) rfl ?_
                        refine ynil' (kbn (kthn ?_))
                        exact ksub (by repeat first | exact sub_nil | refine sub_cons rfl ?_ | refine sub_cons' rfl (by simp) ?_) (by repeat first | exact .refl | exact .nil | exact .z | apply Pk.s | refine Ge.e ?_ | apply Ge.pick | apply Ge.drop) (hJr32 _ hju)
                      · (try simp only [decide_eq_true_eq, beq_iff_eq, beq_eq_false_iff_ne, decide_eq_decide, decide_eq_false_iff_not, Bool.not_eq_true', Bool.not_eq_false', Bool.not_eq_true, Bool.not_eq_false, Bool.not_not, ne_eq, Option.isNone_some, Option.isSome_some, Option.isNone_none, Option.isSome_none] at h129)
                        have hju : u ≤ 1 ∧ (((k + 1 : Nat) : Int) ≤ P → u = 0) := ⟨hu, fun hc => hku (by omega)⟩
                        refine cskip' (kbn (kthn ?_))
                        exact ksub (by repeat first | exact sub_nil | refine sub_cons rfl ?_ | refine sub_cons' rfl (by simp) ?_) (by repeat first | exact .refl | exact .nil | exact .z | apply Pk.s | refine Ge.e ?_ | apply Ge.pick | apply Ge.drop) (hJr32 _ hju)
                    · (try simp only [decide_eq_true_eq, beq_iff_eq, beq_eq_false_iff_ne, decide_eq_decide, decide_eq_false_iff_not, Bool.not_eq_true', Bool.not_eq_false', Bool.not_eq_true, Bool.not_eq_false, Bool.not_not, ne_eq, Option.isNone_some, Option.isSome_some, Option.isNone_none, Option.isSome_none] at h115)
                      refine cexit (kthx (kthx (kbx (kthn ?_))))
                      exact ksub (by repeat first | exact sub_nil | refine sub_cons rfl ?_ | refine sub_cons' rfl (by simp) ?_) (by repeat first | exact .refl | exact .nil | exact .z | apply Pk.s | refine Ge.e ?_ | apply Ge.pick | apply Ge.drop) (hJ3 ⟨k, u⟩ ⟨hI3o, by first | trivial | omega⟩)
                · (try simp only [decide_eq_true_eq, beq_iff_eq, beq_eq_false_iff_ne, decide_eq_decide, decide_eq_false_iff_not, Bool.not_eq_true', Bool.not_eq_false', Bool.not_eq_true, Bool.not_eq_false, Bool.not_not, ne_eq, Option.isNone_some, Option.isSome_some, Option.isNone_none, Option.isSome_none] at h90)
                  refine cseq ?_; intro K46 hK46
                  refine creg ?_
                  refine y (ev_eql rfl rfl) rfl ?_
                  refine y (ev_assign rfl) rfl ?_
                  refine ynil' (kthn (hK46 _ _ ?_))
                  clear hK46
                  refine ccond rfl (fun h135 => ?_) (fun h135 => ?_)
                  · (try simp only [decide_eq_true_eq, beq_iff_eq, beq_eq_false_iff_ne, decide_eq_decide, decide_eq_false_iff_not, Bool.not_eq_true', Bool.not_eq_false', Bool.not_eq_true, Bool.not_eq_false, Bool.not_not, ne_eq, Option.isNone_some, Option.isSome_some, Option.isNone_none, Option.isSome_none] at h135)
                    refine creg ?_
                    refine y (ev_move rfl) rfl ?_
                    refine ycall (gSync (N := n + 5) (k := i + 1) ?ag137 ?as137) rfl Try.call35 (by repeat first | exact .nil | exact .z | apply Pk.s | apply Tk.cons) rfl ?_
                    case ag137 => exact hG
                    case as137 => exact ok
                    rintro v L' ⟨D116, rfl, hG116, hes116, hf116, ok116, rfl⟩
                    have hj := And.intro hG116.up1 (And.intro ok116 (hmi.same (fun k hk => by have := mineK_in n2 hk; exact hf116 k (by omega) (by omega))))
                    refine ynil' (kbn (kthn ?_))
                    exact ksub (by repeat first | exact sub_nil | refine sub_cons rfl ?_ | refine sub_cons' rfl (by simp) ?_) (by repeat first | exact .refl | exact .nil | exact .z | apply Pk.s | refine Ge.e ?_ | apply Ge.pick | apply Ge.drop) (hJr39 ⟨_, _, _, _, _⟩ hj)
                  · (try simp only [decide_eq_true_eq, beq_iff_eq, beq_eq_false_iff_ne, decide_eq_decide, decide_eq_false_iff_not, Bool.not_eq_true', Bool.not_eq_false', Bool.not_eq_true, Bool.not_eq_false, Bool.not_not, ne_eq, Option.isNone_some, Option.isSome_some, Option.isNone_none, Option.isSome_none] at h135)
                    refine cseq ?_; intro K47 hK47
                    refine creg ?_
                    refine y (ev_eql rfl rfl) rfl ?_
                    refine y (ev_assign rfl) rfl ?_
                    refine ynil' (kthn (hK47 _ _ ?_))
                    clear hK47
                    refine ccond rfl (fun h140 => ?_) (fun h140 => ?_)
                    · (try simp only [decide_eq_true_eq, beq_iff_eq, beq_eq_false_iff_ne, decide_eq_decide, decide_eq_false_iff_not, Bool.not_eq_true', Bool.not_eq_false', Bool.not_eq_true, Bool.not_eq_false, Bool.not_not, ne_eq, Option.isNone_some, Option.isSome_some, Option.isNone_none, Option.isSome_none] at h140)
                      refine cdraw 7 [(0, true), (1, true), (3, true), (4, true), (5, true), (2, false), (6, true)] ([sc b12 a.cells 58] ++ R) Try.mixed (by kernel_rfl) (by repeat first | exact .refl | exact .nil | exact .z | apply Pk.s | refine Ge.e ?_ | apply Ge.pick | apply Ge.drop) ?_
                      refine hr rfl (ev_move rfl) rfl ?_
                      refine hr rfl (ev_move rfl) rfl ?_
                      refine hr rfl (ev_fieldAddr 1 rfl Try.underlying58 rfl Try.sizeOf3) rfl ?_
                      refine hr rfl (ev_load rfl Try.isAgg3 (by repeat first | exact .z | apply In.s) rfl) rfl ?_
                      refine hr rfl (ev_and rfl rfl) rfl ?_
                      obtain ⟨hz0, hz1⟩ := and31 a.n; generalize bAnd .i64 a.n 31 = z at *
                      refine hcall rfl (bHead) rfl Try.call29 (by repeat first | exact .nil | exact .z | apply Pk.s | apply Tk.cons) rfl ?_
                      rintro v L' ⟨rfl, rfl⟩; refine ⟨(by repeat first | exact .refl | exact .nil | exact .z | apply Pk.s | refine Ge.e ?_ | apply Ge.pick | apply Ge.drop), ?_⟩
                      refine hr rfl (ev_add rfl rfl) rfl ?_
                      rw [show (logD 4 n 1 2 D h 1 le l).head = h from rfl, wr (by omega) (by omega)]
                      refine hnil ?_
                      refine ycall (gTrim (m := h + z) (N := n + 5) (k := i + 1) ?ag148 ?ak148 ?as148) rfl Try.call28 (by repeat first | exact .nil | exact .z | apply Pk.s | apply Tk.cons) rfl ?_
                      case ag148 => exact hG
                      case ak148 => omega
                      case as148 => exact ok
                      rintro v L' ⟨s126, D126, h126, e126, l126, rfl, hG126, hh126, hl126, hf126, ok126, rfl⟩
                      have hj := And.intro hG126 (And.intro ok126 (hmi.same (fun k hk => by have := mineK_in n2 hk; exact hf126 k (by omega) (by omega) (by omega) (by omega))))
                      refine hnoP' (kbn (kthn ?_))
                      exact ksub (by repeat first | exact sub_nil | refine sub_cons rfl ?_ | refine sub_cons' rfl (by simp) ?_) (by repeat first | exact .refl | exact .nil | exact .z | apply Pk.s | refine Ge.e ?_ | apply Ge.pick | apply Ge.drop) (hJr39 ⟨_, _, _, _, _⟩ hj)
                    · (try simp only [decide_eq_true_eq, beq_iff_eq, beq_eq_false_iff_ne, decide_eq_decide, decide_eq_false_iff_not, Bool.not_eq_true', Bool.not_eq_false', Bool.not_eq_true, Bool.not_eq_false, Bool.not_not, ne_eq, Option.isNone_some, Option.isSome_some, Option.isNone_none, Option.isSome_none] at h140)
                      have hj := And.intro hG.up1 (And.intro ok hmi)
                      refine cskip' (kbn (kthn ?_))
                      exact ksub (by repeat first | exact sub_nil | refine sub_cons rfl ?_ | refine sub_cons' rfl (by simp) ?_) (by repeat first | exact .refl | exact .nil | exact .z | apply Pk.s | refine Ge.e ?_ | apply Ge.pick | apply Ge.drop) (hJr39 ⟨_, _, _, _, _⟩ hj)
            · (try simp only [decide_eq_true_eq, beq_iff_eq, beq_eq_false_iff_ne, decide_eq_decide, decide_eq_false_iff_not, Bool.not_eq_true', Bool.not_eq_false', Bool.not_eq_true, Bool.not_eq_false, Bool.not_not, ne_eq, Option.isNone_some, Option.isSome_some, Option.isNone_none, Option.isSome_none] at h41)
              refine cexit (kthx (kthx (kbx (kthn ?_))))
              exact ksub (by repeat first | exact sub_nil | refine sub_cons rfl ?_ | refine sub_cons' rfl (by simp) ?_) (by repeat first | exact .refl | exact .nil | exact .z | apply Pk.s | refine Ge.e ?_ | apply Ge.pick | apply Ge.drop) (hJ2 ⟨i, sl, D, h, le, l⟩ ⟨hI2o, by first | trivial | omega⟩)
          · (try simp only [decide_eq_true_eq, beq_iff_eq, beq_eq_false_iff_ne, decide_eq_decide, decide_eq_false_iff_not, Bool.not_eq_true', Bool.not_eq_false', Bool.not_eq_true, Bool.not_eq_false, Bool.not_not, ne_eq, Option.isNone_some, Option.isSome_some, Option.isNone_none, Option.isSome_none] at h37)
            refine yg0 rfl rfl rfl rfl ?_
            refine yg0 rfl rfl rfl rfl ?_
            refine y (ev_pick0 rfl rfl) rfl ?_
            refine ynil' (kthn (hK17 _ _ ?_))
            clear hK17
            refine ccond0 rfl ?_
            refine cexit (kthx (kthx (kbx (kthn ?_))))
            exact ksub (by repeat first | exact sub_nil | refine sub_cons rfl ?_ | refine sub_cons' rfl (by simp) ?_) (by repeat first | exact .refl | exact .nil | exact .z | apply Pk.s | refine Ge.e ?_ | apply Ge.pick | apply Ge.drop) (hJ2 ⟨i, sl, D, h, le, l⟩ ⟨hI2o, by first | trivial | omega⟩)
      clear hK8
      refine cblock ?_
      refine cloop (A := Nat × Dev) (fun x => [(37, i64 x.1), (36, i64 3), (35, .slice (some ⟨b35, 0, none⟩) 3 3), (6, dp q30), (5, i64 n), (1, lv)]) (fun x => [sc b35 (intsV (mineK n)) 3, dev q30 x.2] ++ R) (fun x => MInit n x.2 x.1 ∧ x.1 ≤ 3) (fun x => 3 - x.1) ((0, Dev.new (n + 5))) ?_ (by repeat first | exact sub_nil | refine sub_cons rfl ?_ | refine sub_cons' rfl (by simp) ?_) (by repeat first | exact .refl | exact .nil | exact .z | apply Pk.s | refine Ge.e ?_ | apply Ge.pick | apply Ge.drop) ?_
      · exact ⟨MInit.new n20, Nat.zero_le _⟩
      rintro ⟨k, D⟩ hI1 KL1 hL1
      have hI1o := hI1
      obtain ⟨hM, hk⟩ := hI1; dsimp only at hM hk ⊢; have hrd : RdV [sc b35 (intsV (mineK n)) 3] (.slice (some ⟨b35, 0, none⟩) 3 3) 3 (intsV (mineK n)) := rdV_in .z rfl rfl
      refine cseq ?_; intro K48 hK48
      refine creg ?_
      refine y (ev_lss rfl rfl) rfl ?_
      refine ynil' (kthn (hK48 _ _ ?_))
      clear hK48
      refine cseq ?_; intro K49 hK49
      refine ccond rfl (fun h151 => ?_) (fun h151 => ?_)
      · (try simp only [decide_eq_true_eq, beq_iff_eq, beq_eq_false_iff_ne, decide_eq_decide, decide_eq_false_iff_not, Bool.not_eq_true', Bool.not_eq_false', Bool.not_eq_true, Bool.not_eq_false, Bool.not_not, ne_eq, Option.isNone_some, Option.isSome_some, Option.isNone_none, Option.isSome_none] at h151)
        obtain ⟨z, hz⟩ : ∃ z, (mineK n)[k]? = some z := ⟨_, List.getElem?_eq_getElem (by show k < 3; omega)⟩
        refine cskip' (kthn (hK49 _ _ ?_))
        clear hK49
        refine cseq ?_; intro K50 hK50
        refine cblock ?_
        refine cseq ?_; intro K51 hK51
        refine creg ?_
        refine y (ev_ixV hrd rfl rfl Try.underlying32 Try.sizeOf3 (by omega) (by omega)) rfl ?_
        refine y (ev_loadV k hrd (by repeat first | exact .refl | exact .nil | exact .z | apply Pk.s | refine Ge.e ?_ | apply Ge.pick | apply Ge.drop) rfl Try.isAgg3 (by simp) (intsV_get hz)) rfl ?_
        refine y (ev_assign rfl) rfl ?_
        refine ynil' (kthn (hK51 _ _ ?_))
        clear hK51
        refine creg ?_
        refine y (ev_move rfl) rfl ?_
        refine y (ev_move rfl) rfl ?_
        refine ya (ac_bsliceR rfl Try.underlying22 Try.sizeOf5 Try.zeroValue5 rfl rfl rfl rfl ⟨⟨_, _, rfl, (by first | rfl | simp), (by first | decide | simp)⟩, ⟨⟨_, _, rfl, (by first | rfl | simp), (by first | decide | simp)⟩, ⟨⟨_, _, rfl, (by first | rfl | simp), (by first | decide | simp)⟩, ⟨⟨_, _, rfl, (by first | rfl | simp), (by first | decide | simp)⟩, trivial⟩⟩⟩⟩ (by dsimp [fillL, splice, vcells, reps] <;> rfl)) rfl ?_
        rintro v L' ⟨b43, rfl, rfl⟩
        refine ya (ac_mark rfl Try.underlying22 Try.underlying5 (by repeat first | exact .z | apply In.s) (fun _ => (by repeat first | exact .z | apply Rp.s))) rfl ?_
        rintro v L' ⟨rfl, fr44, rfl⟩
        refine ycall (secWrite (bs := mine) ?ok159 ?rd159) rfl Try.call37 (by repeat first | exact .nil | exact .z | apply Pk.s | apply Tk.cons) rfl ?_
        case ok159 => exact hM.up.ok
        case rd159 => exact rdB_in (by repeat first | exact .z | apply In.s) rfl rfl
        rintro v L' ⟨rfl, rfl⟩
        refine ynil' (kbn (kthn (hK50 _ _ ?_)))
        clear hK50
        refine creg ?_
        refine y (ev_add rfl rfl) rfl ?_
        rw [show IntKind.i64.wrap ((k:Int) + 1) = ((k+1 : Nat) : Int) by rw [wr (by omega) (by omega)]; rfl]
        refine y (ev_move rfl) rfl ?_
        refine ynil' (kthn ?_)
        exact hL1 ((k + 1, (D.write z mine).2)) (⟨hM.step n2 hz, by dsimp only; omega⟩) (by dsimp only; omega) _ _ (by repeat first | exact sub_nil | refine sub_cons rfl ?_ | refine sub_cons' rfl (by simp) ?_) (by repeat first | exact .refl | exact .nil | exact .z | apply Pk.s | refine Ge.e ?_ | apply Ge.pick | apply Ge.drop)
      · (try simp only [decide_eq_true_eq, beq_iff_eq, beq_eq_false_iff_ne, decide_eq_decide, decide_eq_false_iff_not, Bool.not_eq_true', Bool.not_eq_false', Bool.not_eq_true, Bool.not_eq_false, Bool.not_not, ne_eq, Option.isNone_some, Option.isSome_some, Option.isNone_none, Option.isSome_none] at h151)
        refine cexit (kthx (kthx (kbx (kthn ?_))))
        exact ksub (by repeat first | exact sub_nil | refine sub_cons rfl ?_ | refine sub_cons' rfl (by simp) ?_) (by repeat first | exact .refl | exact .nil | exact .z | apply Pk.s | refine Ge.e ?_ | apply Ge.pick | apply Ge.drop) (hJ1 ⟨k, D⟩ ⟨hI1o, by first | trivial | omega⟩)
end W
end Go.Proofs
