/- A part of the proof: contracts and plain lemmas, each without conditions beyond those that it names. -/
import Derived.Test.YtebijajimmjknaaW7
import Derived.Test.YtebijajimmjknaaGH
import Derived.Test.YtebijajimmjknaaGI
set_option linter.unusedVariables false
set_option linter.unusedSimpArgs false
set_option linter.constructorNameAsVariable false
namespace Go.Proofs
open Go Go.Sl
namespace W
set_option linter.unusedVariables false
theorem lawChanges [Env] {R : List Seg} {bv ov : Value} {us : List Bool} {bs : Bytes} (hb : RdV R bv us.length (boolsV us)) (ho : RdV R ov bs.length (bytesV bs)) :
    Con Try.prog 3 [bv, ov] [] R (Is (.bool true) []) := by
  have hG0 := good_new (wait := 1) (by decide)
  obtain ⟨hf0, hl0, hw0⟩ := witO_new 1
  refine con_enter Try.func3 Try.ntmps3 rfl rfl ?_
  refine cseq ?_; intro K1 hK1
  refine creg ?_
  refine y (ev_assign rfl) rfl ?_
  refine ynil' (kthn (hK1 _ _ ?_))
  clear hK1
  refine cseq ?_; intro K2 hK2
  refine cseq ?_; intro K3 hK3
  refine creg ?_
  refine ycall (awake14) rfl Try.call13 (by repeat first | exact .nil | exact .z | apply Pk.s | apply Tk.cons) rfl ?_
  rintro v L' ⟨rfl, rfl⟩
  skip
  · skip
    refine y (ev_not rfl) rfl ?_
    refine ynil' (kthn (hK3 _ _ ?_))
    clear hK3
    refine ccond0 rfl ?_
    refine cskip' (kthn (hK2 _ _ ?_))
    clear hK2
    refine cseq ?_; intro K4 hK4
    refine creg ?_
    refine ycall (wBegin (wt := 0) ?wt4) rfl Try.call14 (by repeat first | exact .nil | exact .z | apply Pk.s | apply Tk.cons) rfl ?_
    case wt4 => decide
    rintro v L' ⟨l18, q18, s18, c18, mb18, rfl, rfl⟩
    simp only [show ((0:Int) % 20 + 1) = 1 from rfl]
    generalize witO (Dev.new 2) 0 1 1 = W0 at *
    refine y (ev_assign rfl) rfl ?_
    refine ynil' (kthn (hK4 _ _ ?_))
    clear hK4
    refine cseq ?_; intro K5 hK5
    refine cseq ?_; intro K6 hK6
    refine creg ?_
    refine y (ev_move rfl) rfl ?_
    refine y (ev_nil rfl) rfl ?_
    refine y (ev_fieldAddr 1 rfl Try.underlying31 rfl Try.sizeOf28) rfl ?_
    refine y (ev_load rfl Try.isAgg28 (by repeat first | exact .z | apply In.s) rfl) rfl ?_
    skip
    · skip
      refine y (ev_eqlPnil rfl rfl Try.underlying28) rfl ?_
      refine ynil' (kthn (hK6 _ _ ?_))
      clear hK6
      refine ccond0 rfl ?_
      refine cskip' (kthn (hK5 _ _ ?_))
      clear hK5
      refine cseq ?_; intro K7 hK7
      refine cseq ?_; intro K8 hK8
      refine creg ?_
      refine y (ev_assign rfl) rfl ?_
      refine ynil' (kthn (hK8 _ _ ?_))
      clear hK8
      have hJ1 : ∀ x : Nat × WitM, ((WGood x.2 (Dev.new 2) 0 ∧ x.2.f = .first ∧ x.2.wait = 1 ∧ x.2.left = 1 - x.1 ∧ x.1 ≤ 1) ∧ (x.1 = 1)) → Sk 132 K7 ([(6, i64 x.1), (5, ptr l18), (0, bv), (1, ov)]) ([lifeP l18 q18 (ptr s18) 1 mb18 false, ownM mb18 [] 0, witP s18 c18 x.2, celP c18 q18 x.2.c, dev q18 (Dev.new 2)] ++ R) := by
        rintro ⟨i, W⟩ ⟨hI1, hX1⟩
        refine hK7 _ _ ?_
        obtain ⟨hG, hf, hw, hl, hi⟩ := hI1; dsimp only at hG hf hw hl hi ⊢
        dsimp only at hX1; subst hX1; have hl0' : W.left = 0 := by omega
        refine cseq ?_; intro K9 hK9
        refine cseq ?_; intro K10 hK10
        refine creg ?_
        refine y (ev_move rfl) rfl ?_
        refine y (ev_nil rfl) rfl ?_
        refine y (ev_fieldAddr 1 rfl Try.underlying31 rfl Try.sizeOf28) rfl ?_
        refine y (ev_load rfl Try.isAgg28 (by repeat first | exact .z | apply In.s) rfl) rfl ?_
        refine y (ev_build (vs := [i64 1, i64 0, i64 0, i64 0, i64 0, i64 0, i64 0, i64 0, i64 0, i64 0, i64 0, str [], str []]) (zs := _) rfl Try.underlying35 Try.zeroValue35 rfl (.cons Try.sizeOf3 (.cons Try.sizeOf2 (.cons Try.sizeOf2 (.cons Try.sizeOf2 (.cons Try.sizeOf3 (.cons Try.sizeOf3 (.cons Try.sizeOf32 (.cons Try.sizeOf33 (.cons Try.sizeOf9 (.cons Try.sizeOf9 .nil)))))))))) ⟨⟨_, _, rfl, (by first | rfl | simp), (by first | decide | simp)⟩, trivial⟩ (by dsimp [fillL, splice, vcells] <;> rfl)) rfl ?_
        refine ycall (wTakeGood (m := askM) (r := ((ansF fA askM 0, true), fA, 1)) hG (by decide) (by rw [hf, hl0', hw]; exact take_first)) rfl Try.call16 (by repeat first | exact .nil | exact .z | apply Pk.s | apply Tk.cons) rfl ?_
        rintro v L' ⟨W1, D1, rfl, hf1, hl1, hw1, hG1, rfl⟩
        dsimp only at hf1 hl1; rw [hw] at hw1
        refine y (ev_move rfl) rfl ?_
        refine y (ev_extract rfl rfl) rfl ?_
        refine y (ev_extract rfl rfl) rfl ?_
        refine ya (ac_alloc Try.zeroValue35 rfl) rfl ?_
        rintro v L' ⟨b7, rfl, rfl⟩
        refine ya0 (ac_storeN rfl rfl (msg_one _) Try.sizeOf35 (by repeat first | exact .z | apply Rp.s) rfl (by simp [MsgM.cells]) rfl) ?_
        rintro v L' ⟨rfl, rfl⟩
        refine y (ev_assign rfl) rfl ?_
        refine ynil' (kthn (hK10 _ _ ?_))
        clear hK10
        refine cseq ?_; intro K11 hK11
        refine creg ?_
        refine y (ev_fieldAddr 6 rfl Try.underlying35 rfl Try.sizeOf32) rfl ?_
        refine y (ev_load rfl Try.isAgg32 (by repeat first | exact .z | apply In.s) rfl) rfl ?_
        skip
        · skip
          refine y (ev_neq rfl rfl) rfl ?_
          refine ynil' (kthn (hK11 _ _ ?_))
          clear hK11
          refine ccond0 rfl ?_
          refine cskip' (kthn (hK9 _ _ ?_))
          clear hK9
          refine cseq ?_; intro K12 hK12
          refine creg ?_
          refine y (ev_assign rfl) rfl ?_
          refine ynil' (kthn (hK12 _ _ ?_))
          clear hK12
          refine cseq ?_; intro K13 hK13
          refine cseq ?_; intro K14 hK14
          refine creg ?_
          refine y (ev_assign rfl) rfl ?_
          refine ynil' (kthn (hK14 _ _ ?_))
          clear hK14
          have hJ2 : ∀ x : Nat × Int × WitM × Dev, ((WGood x.2.2.1 x.2.2.2 (x.1 + 1) ∧ x.2.2.1.f = factC us x.2.1 ∧ -1 ≤ x.2.1 ∧ x.2.1 < us.length ∧ x.2.1 < 50 ∧ x.1 ≤ 200 ∧ x.1 ≤ bs.length) ∧ (True)) → Sk 132 K13 ([(10, i64 x.1), (9, i64 x.2.1), (5, ptr l18), (0, bv), (1, ov)]) ([lifeP l18 q18 (ptr s18) 1 mb18 false, ownM mb18 [] 0, witP s18 c18 x.2.2.1, celP c18 q18 x.2.2.1.c, dev q18 x.2.2.2] ++ R) := by
            rintro ⟨i, top, W, D⟩ ⟨hI2, hX2⟩
            refine hK13 _ _ ?_
            obtain ⟨hG2, hf2, ht1, ht2, ht3, hi1, hi2⟩ := hI2; dsimp only at hG2 hf2 ht1 ht2 ht3 hi1 hi2 ⊢
            skip
            refine cseq ?_; intro K15 hK15
            refine creg ?_
            refine y (ev_move rfl) rfl ?_
            refine y (ev_nil rfl) rfl ?_
            refine y (ev_fieldAddr 1 rfl Try.underlying31 rfl Try.sizeOf28) rfl ?_
            refine y (ev_load rfl Try.isAgg28 (by repeat first | exact .z | apply In.s) rfl) rfl ?_
            refine ycall (wEpoch) rfl Try.call18 (by repeat first | exact .nil | exact .z | apply Pk.s | apply Tk.cons) rfl ?_
            rintro v L' ⟨rfl, rfl⟩
            rw [hf2]
            skip
            · skip
              refine y (ev_eql rfl rfl) rfl ?_
              refine y (ev_move rfl) rfl ?_
              refine yg1 rfl rfl ?_
              refine y (ev_move rfl) rfl ?_
              refine yg1 rfl rfl ?_
              refine y (ev_nil rfl) rfl ?_
              refine yg1 rfl rfl ?_
              refine y (ev_fieldAddr 1 rfl Try.underlying31 rfl Try.sizeOf28) rfl ?_
              refine yg1 rfl rfl ?_
              refine y (ev_load rfl Try.isAgg28 (by repeat first | exact .z | apply In.s) rfl) rfl ?_
              refine yg1 rfl rfl ?_
              refine ycall (wHolder) rfl Try.call19 (by repeat first | exact .nil | exact .z | apply Pk.s | apply Tk.cons) rfl ?_
              rintro v L' ⟨rfl, rfl⟩
              rw [hf2]
              refine yg1 rfl rfl ?_
              refine y (ev_eql rfl rfl) rfl ?_
              refine y (ev_pick1 rfl rfl) rfl ?_
              refine y (ev_assign rfl) rfl ?_
              refine ynil' (kthn (hK15 _ _ ?_))
              clear hK15
              refine cret ?_
              first
                | (exfalso; omega; done)
                | (refine kretv Try.results3 rfl (L1 := R) (by repeat first | exact .refl | exact .nil | exact .z | apply Pk.s | refine Ge.e ?_ | apply Ge.pick | apply Ge.drop) ?_
                   exact ⟨_, ⟨by rfl, rfl⟩, by rfl⟩)
          clear hK13
          refine cblock ?_
          refine cloop (A := Nat × Int × WitM × Dev) (fun x => [(10, i64 x.1), (9, i64 x.2.1), (5, ptr l18), (0, bv), (1, ov)]) (fun x => [lifeP l18 q18 (ptr s18) 1 mb18 false, ownM mb18 [] 0, witP s18 c18 x.2.2.1, celP c18 q18 x.2.2.1.c, dev q18 x.2.2.2] ++ R) (fun x => WGood x.2.2.1 x.2.2.2 (x.1 + 1) ∧ x.2.2.1.f = factC us x.2.1 ∧ -1 ≤ x.2.1 ∧ x.2.1 < us.length ∧ x.2.1 < 50 ∧ x.1 ≤ 200 ∧ x.1 ≤ bs.length) (fun x => bs.length - x.1) ((0, -1, W1, D1)) ?_ (by repeat first | exact sub_nil | refine sub_cons rfl ?_ | refine sub_cons' rfl (by simp) ?_) (by repeat first | exact .refl | exact .nil | exact .z | apply Pk.s | refine Ge.e ?_ | apply Ge.pick | apply Ge.drop) ?_
          · exact ⟨hG1, hf1, by dsimp only; omega, by dsimp only; omega, by dsimp only; omega, Nat.zero_le _, Nat.zero_le _⟩
          rintro ⟨i, top, W, D⟩ hI2 KL2 hL2
          have hI2o := hI2
          obtain ⟨hG2, hf2, ht1, ht2, ht3, hi1, hi2⟩ := hI2; dsimp only at hG2 hf2 ht1 ht2 ht3 hi1 hi2 ⊢
          refine cseq ?_; intro K16 hK16
          refine cseq ?_; intro K17 hK17
          refine creg ?_
          refine y (ev_move rfl) rfl ?_
          refine y (ev_move rfl) rfl ?_
          first
            | refine y (ev_len rfl Try.underlying23) rfl ?_
            | refine y (ev_lenSv rfl Try.underlying23 (by assumption)) rfl ?_
            | refine y (ev_lenV rfl Try.underlying23 (RdV.lenVal (by assumption))) rfl ?_
            | refine y (ev_lenV rfl Try.underlying23 (RdB.lenVal (by assumption))) rfl ?_
          refine y (ev_lss rfl rfl) rfl ?_
          refine y (ev_move rfl) rfl ?_
          refine ysplit 53 rfl (fun h49 => ?_) (fun h49 => ?_)
          · (try simp only [decide_eq_true_eq, beq_iff_eq, beq_eq_false_iff_ne, decide_eq_decide, decide_eq_false_iff_not, Bool.not_eq_true', Bool.not_eq_false', Bool.not_eq_true, Bool.not_eq_false, Bool.not_not, ne_eq, Option.isNone_some, Option.isSome_some, Option.isNone_none, Option.isSome_none] at h49)
            refine yg1 rfl rfl ?_
            refine y (ev_move rfl) rfl ?_
            refine yg1 rfl rfl ?_
            refine y (ev_lss rfl rfl) rfl ?_
            refine y (ev_pick1 rfl rfl) rfl ?_
            refine y (ev_move rfl) rfl ?_
            refine ysplit 57 rfl (fun h54 => ?_) (fun h54 => ?_)
            · (try simp only [decide_eq_true_eq, beq_iff_eq, beq_eq_false_iff_ne, decide_eq_decide, decide_eq_false_iff_not, Bool.not_eq_true', Bool.not_eq_false', Bool.not_eq_true, Bool.not_eq_false, Bool.not_not, ne_eq, Option.isNone_some, Option.isSome_some, Option.isNone_none, Option.isSome_none] at h54)
              refine yg1 rfl rfl ?_
              refine y (ev_move rfl) rfl ?_
              refine yg1 rfl rfl ?_
              first
                | refine y (ev_len rfl Try.underlying22) rfl ?_
                | refine y (ev_lenSv rfl Try.underlying22 (by assumption)) rfl ?_
                | refine y (ev_lenV rfl Try.underlying22 (RdV.lenVal (by assumption))) rfl ?_
                | refine y (ev_lenV rfl Try.underlying22 (RdB.lenVal (by assumption))) rfl ?_
              refine yg1 rfl rfl ?_
              refine y (ev_gtr rfl rfl) rfl ?_
              refine y (ev_pick1 rfl rfl) rfl ?_
              refine ynil' (kthn (hK17 _ _ ?_))
              clear hK17
              refine ccond rfl (fun h59 => ?_) (fun h59 => ?_)
              · (try simp only [decide_eq_true_eq, beq_iff_eq, beq_eq_false_iff_ne, decide_eq_decide, decide_eq_false_iff_not, Bool.not_eq_true', Bool.not_eq_false', Bool.not_eq_true, Bool.not_eq_false, Bool.not_not, ne_eq, Option.isNone_some, Option.isSome_some, Option.isNone_none, Option.isSome_none] at h59)
                refine cskip' (kthn (hK16 _ _ ?_))
                clear hK16
                refine cseq ?_; intro K18 hK18
                refine cblock ?_
                refine cseq ?_; intro K19 hK19
                refine creg ?_
                obtain ⟨b, hbb⟩ : ∃ b, bs[i]? = some b := ⟨_, List.getElem?_eq_getElem (by omega)⟩
                refine y (ev_move rfl) rfl ?_
                refine y (ev_move rfl) rfl ?_
                refine y (ev_ixV ho rfl rfl Try.underlying23 Try.sizeOf5 (by omega) (by omega)) rfl ?_
                refine y (ev_loadV i ho (by repeat first | exact .refl | exact .nil | exact .z | apply Pk.s | refine Ge.e ?_ | apply Ge.pick | apply Ge.drop) rfl Try.isAgg5 (by simp) (bytesV_get (by omega))) rfl ?_
                refine y (ev_conv rfl Try.underlying5 Try.underlying3) rfl ?_
                refine y (ev_move rfl) rfl ?_
                first
                  | refine y (ev_len rfl Try.underlying22) rfl ?_
                  | refine y (ev_lenSv rfl Try.underlying22 (by assumption)) rfl ?_
                  | refine y (ev_lenV rfl Try.underlying22 (RdV.lenVal (by assumption))) rfl ?_
                  | refine y (ev_lenV rfl Try.underlying22 (RdB.lenVal (by assumption))) rfl ?_
                refine y (ev_min rfl rfl) rfl ?_
                refine y (ev_rem rfl rfl (by split <;> omega)) rfl ?_
                obtain ⟨k, hke, hk1, hk2⟩ := kmod (b := bs[i]?.getD 0) (n := us.length) (by omega)
                rw [hke]
                obtain ⟨bk, hbk⟩ : ∃ x, us[k]? = some x := ⟨_, List.getElem?_eq_getElem (by omega)⟩
                have hmk := maskC_nat hbk
                refine y (ev_assign rfl) rfl ?_
                refine ynil' (kthn (hK19 _ _ ?_))
                clear hK19
                refine cseq ?_; intro K20 hK20
                refine creg ?_
                refine y (ev_assign rfl) rfl ?_
                refine ynil' (kthn (hK20 _ _ ?_))
                clear hK20
                refine cseq ?_; intro K21 hK21
                have hJr21 : ∀ x : Int, (x = maskC us k) → Sk 132 K21 ([(12, i64 x), (11, i64 k), (10, i64 i), (9, i64 top), (5, ptr l18), (0, bv), (1, ov)]) ([lifeP l18 q18 (ptr s18) 1 mb18 false, ownM mb18 [] 0, witP s18 c18 W, celP c18 q18 W.c, dev q18 D] ++ R) := by
                  rintro mk hIr21
                  refine hK21 _ _ ?_
                  have hmk2 := hIr21; subst hmk2
                  refine cseq ?_; intro K22 hK22
                  refine creg ?_
                  refine y (ev_move rfl) rfl ?_
                  refine y (ev_nil rfl) rfl ?_
                  refine y (ev_fieldAddr 1 rfl Try.underlying31 rfl Try.sizeOf28) rfl ?_
                  refine y (ev_load rfl Try.isAgg28 (by repeat first | exact .z | apply In.s) rfl) rfl ?_
                  refine y (ev_move rfl) rfl ?_
                  refine y (ev_move rfl) rfl ?_
                  refine y (ev_add rfl rfl) rfl ?_
                  rw [wr (by omega) (by omega)]
                  refine y (ev_build (vs := [i64 3, i64 1, i64 (maskC us k), i64 (k + 1), i64 0, i64 0, i64 0, i64 0, i64 0, i64 0, i64 0, str [], str []]) (zs := _) rfl Try.underlying35 Try.zeroValue35 rfl (.cons Try.sizeOf3 (.cons Try.sizeOf2 (.cons Try.sizeOf2 (.cons Try.sizeOf2 (.cons Try.sizeOf3 (.cons Try.sizeOf3 (.cons Try.sizeOf32 (.cons Try.sizeOf33 (.cons Try.sizeOf9 (.cons Try.sizeOf9 .nil)))))))))) ⟨⟨_, _, rfl, (by first | rfl | simp), (by first | decide | simp)⟩, ⟨⟨_, _, rfl, (by first | rfl | simp), (by first | decide | simp)⟩, ⟨⟨_, _, rfl, (by first | rfl | simp), (by first | decide | simp)⟩, ⟨⟨_, _, rfl, (by first | rfl | simp), (by first | decide | simp)⟩, trivial⟩⟩⟩⟩ (by dsimp [fillL, splice, vcells] <;> rfl)) rfl ?_
                  refine ycall (wTakeGood (m := chM (maskC us k) (k + 1)) (r := ((ansF (factC us (max top k)) (chM (maskC us k) (k + 1)) 0, true), factC us (max top k), W.left)) hG2 (by omega) (by rw [hf2]; exact take_change ht1 ⟨by omega, by omega⟩)) rfl Try.call16 (by repeat first | exact .nil | exact .z | apply Pk.s | apply Tk.cons) rfl ?_
                  rintro v L' ⟨W2, D2, rfl, hf3, hl3, hw3, hG3, rfl⟩
                  refine y (ev_move rfl) rfl ?_
                  refine y (ev_extract rfl rfl) rfl ?_
                  refine y (ev_extract rfl rfl) rfl ?_
                  refine ya (ac_alloc Try.zeroValue35 rfl) rfl ?_
                  rintro v L' ⟨b13, rfl, rfl⟩
                  refine ya0 (ac_storeN rfl rfl (msg_one _) Try.sizeOf35 (by repeat first | exact .z | apply Rp.s) rfl (by simp [MsgM.cells]) rfl) ?_
                  rintro v L' ⟨rfl, rfl⟩
                  refine y (ev_assign rfl) rfl ?_
                  refine ynil' (kthn (hK22 _ _ ?_))
                  clear hK22
                  refine cseq ?_; intro K23 hK23
                  refine creg ?_
                  refine y (ev_move rfl) rfl ?_
                  refine y (ev_move rfl) rfl ?_
                  refine y (ev_max rfl rfl) rfl ?_
                  rw [show (if (k:Int) > top then (k:Int) else top) = max top k by split <;> omega]
                  obtain ⟨bt, hbt⟩ : ∃ x, us[(max top k).toNat]? = some x := ⟨_, List.getElem?_eq_getElem (by omega)⟩
                  have hmt := maskC_int (by omega) hbt
                  refine y (ev_assign rfl) rfl ?_
                  refine ynil' (kthn (hK23 _ _ ?_))
                  clear hK23
                  refine cseq ?_; intro K24 hK24
                  refine creg ?_
                  refine y (ev_assign rfl) rfl ?_
                  refine ynil' (kthn (hK24 _ _ ?_))
                  clear hK24
                  refine cseq ?_; intro K25 hK25
                  have hJr26 : ∀ x : Int, (x = maskC us (max top k)) → Sk 132 K25 ([(15, i64 x), (14, .bool true), (13, ptr b13), (10, i64 i), (9, i64 (max top k)), (5, ptr l18), (0, bv), (1, ov)]) ([sc b13 (ansF (factC us (max top k)) (chM (maskC us k) (k + 1)) 0).cells 35, lifeP l18 q18 (ptr s18) 1 mb18 false, ownM mb18 [] 0, witP s18 c18 W2, celP c18 q18 W2.c, dev q18 D2] ++ R) := by
                    rintro mt hIr26
                    refine hK25 _ _ ?_
                    have hmt2 := hIr26; subst hmt2
                    refine cseq ?_; intro K26 hK26
                    refine creg ?_
                    skip
                    · skip
                      refine y (ev_move rfl) rfl ?_
                      refine y (ev_not rfl) rfl ?_
                      refine y (ev_move rfl) rfl ?_
                      refine yg1 rfl rfl ?_
                      refine y (ev_fieldAddr 6 rfl Try.underlying35 rfl Try.sizeOf32) rfl ?_
                      refine yg1 rfl rfl ?_
                      refine y (ev_load rfl Try.isAgg32 (by repeat first | exact .z | apply In.s) rfl) rfl ?_
                      refine yg1 rfl rfl ?_
                      refine y (ev_neq rfl rfl) rfl ?_
                      refine y (ev_pick0 rfl rfl) rfl ?_
                      refine y (ev_move rfl) rfl ?_
                      refine yg1 rfl rfl ?_
                      refine y (ev_move rfl) rfl ?_
                      refine yg1 rfl rfl ?_
                      refine y (ev_nil rfl) rfl ?_
                      refine yg1 rfl rfl ?_
                      refine y (ev_fieldAddr 1 rfl Try.underlying31 rfl Try.sizeOf28) rfl ?_
                      refine yg1 rfl rfl ?_
                      refine y (ev_load rfl Try.isAgg28 (by repeat first | exact .z | apply In.s) rfl) rfl ?_
                      refine yg1 rfl rfl ?_
                      refine ycall (wMask) rfl Try.call17 (by repeat first | exact .nil | exact .z | apply Pk.s | apply Tk.cons) rfl ?_
                      rintro v L' ⟨rfl, rfl⟩
                      rw [hf3]
                      refine yg1 rfl rfl ?_
                      refine y (ev_move rfl) rfl ?_
                      refine yg1 rfl rfl ?_
                      refine y (ev_neq rfl rfl) rfl ?_
                      rw [show (!decide ((factC us (max top k)).mask = maskC us (max top k))) = false by simp [factC]]
                      refine y (ev_pick0 rfl rfl) rfl ?_
                      refine y (ev_move rfl) rfl ?_
                      refine yg1 rfl rfl ?_
                      refine y (ev_fieldAddr 2 rfl Try.underlying35 rfl Try.sizeOf2) rfl ?_
                      refine yg1 rfl rfl ?_
                      refine y (ev_load rfl Try.isAgg2 (by repeat first | exact .z | apply In.s) rfl) rfl ?_
                      refine yg1 rfl rfl ?_
                      refine y (ev_move rfl) rfl ?_
                      refine yg1 rfl rfl ?_
                      refine y (ev_neq rfl rfl) rfl ?_
                      rw [show (!decide (_ = maskC us (max top k))) = false by simp [factC, ansF]]
                      refine y (ev_pick0 rfl rfl) rfl ?_
                      refine ynil' (kthn (hK26 _ _ ?_))
                      clear hK26
                      refine ccond0 rfl ?_
                      refine cskip' (kbn (kthn (hK18 _ _ ?_)))
                      clear hK18
                      refine creg ?_
                      refine y (ev_move rfl) rfl ?_
                      refine y (ev_add rfl rfl) rfl ?_
                      rw [show IntKind.i64.wrap ((i:Int) + 1) = ((i+1 : Nat) : Int) by rw [wr (by omega) (by omega)]; rfl]
                      refine y (ev_assign rfl) rfl ?_
                      refine ynil' (kthn ?_)
                      exact hL2 ((i + 1, max top k, W2, D2)) (⟨hG3, hf3, by dsimp only; omega, by dsimp only; omega, by dsimp only; omega, by dsimp only; omega, by dsimp only; omega⟩) (by dsimp only; omega) _ _ (by repeat first | exact sub_nil | refine sub_cons rfl ?_ | refine sub_cons' rfl (by simp) ?_) (by repeat first | exact .refl | exact .nil | exact .z | apply Pk.s | refine Ge.e ?_ | apply Ge.pick | apply Ge.drop)
                  clear hK25
                  refine cseq ?_; intro K27 hK27
                  refine creg ?_
                  refine y (ev_move rfl) rfl ?_
                  refine y (ev_move rfl) rfl ?_
                  refine y (ev_ixV hb rfl rfl Try.underlying22 Try.sizeOf4 (by omega) (by omega)) rfl ?_
                  refine y (ev_loadV (max top k).toNat hb (by repeat first | exact .refl | exact .nil | exact .z | apply Pk.s | refine Ge.e ?_ | apply Ge.pick | apply Ge.drop) rfl Try.isAgg4 (by simp) (boolsV_get hbt)) rfl ?_
                  refine ynil' (kthn (hK27 _ _ ?_))
                  clear hK27
                  refine ccond rfl (fun h120 => ?_) (fun h120 => ?_)
                  · (try simp only [decide_eq_true_eq, beq_iff_eq, beq_eq_false_iff_ne, decide_eq_decide, decide_eq_false_iff_not, Bool.not_eq_true', Bool.not_eq_false', Bool.not_eq_true, Bool.not_eq_false, Bool.not_not, ne_eq, Option.isNone_some, Option.isSome_some, Option.isNone_none, Option.isSome_none] at h120)
                    have hx : (3:Int) = maskC us (max top k) := by rw [hmt, if_pos h120]
                    refine creg ?_
                    refine y (ev_assign rfl) rfl ?_
                    refine ynil' (kthn ?_)
                    exact ksub (by repeat first | exact sub_nil | refine sub_cons rfl ?_ | refine sub_cons' rfl (by simp) ?_) (by repeat first | exact .refl | exact .nil | exact .z | apply Pk.s | refine Ge.e ?_ | apply Ge.pick | apply Ge.drop) (hJr26 _ hx)
                  · (try simp only [decide_eq_true_eq, beq_iff_eq, beq_eq_false_iff_ne, decide_eq_decide, decide_eq_false_iff_not, Bool.not_eq_true', Bool.not_eq_false', Bool.not_eq_true, Bool.not_eq_false, Bool.not_not, ne_eq, Option.isNone_some, Option.isSome_some, Option.isNone_none, Option.isSome_none] at h120)
                    have hx : (1:Int) = maskC us (max top k) := by rw [hmt, if_neg (by rw [h120]; decide)]
                    refine cskip' (kthn ?_)
                    exact ksub (by repeat first | exact sub_nil | refine sub_cons rfl ?_ | refine sub_cons' rfl (by simp) ?_) (by repeat first | exact .refl | exact .nil | exact .z | apply Pk.s | refine Ge.e ?_ | apply Ge.pick | apply Ge.drop) (hJr26 _ hx)
                clear hK21
                refine cseq ?_; intro K28 hK28
                refine creg ?_
                refine y (ev_move rfl) rfl ?_
                refine y (ev_move rfl) rfl ?_
                refine y (ev_ixV hb rfl rfl Try.underlying22 Try.sizeOf4 (by omega) (by omega)) rfl ?_
                refine y (ev_loadV k hb (by repeat first | exact .refl | exact .nil | exact .z | apply Pk.s | refine Ge.e ?_ | apply Ge.pick | apply Ge.drop) rfl Try.isAgg4 (by simp) (boolsV_get hbk)) rfl ?_
                refine ynil' (kthn (hK28 _ _ ?_))
                clear hK28
                refine ccond rfl (fun h126 => ?_) (fun h126 => ?_)
                · (try simp only [decide_eq_true_eq, beq_iff_eq, beq_eq_false_iff_ne, decide_eq_decide, decide_eq_false_iff_not, Bool.not_eq_true', Bool.not_eq_false', Bool.not_eq_true, Bool.not_eq_false, Bool.not_not, ne_eq, Option.isNone_some, Option.isSome_some, Option.isNone_none, Option.isSome_none] at h126)
                  have hx : (3:Int) = maskC us k := by rw [hmk, if_pos h126]
                  refine creg ?_
                  refine y (ev_assign rfl) rfl ?_
                  refine ynil' (kthn ?_)
                  exact ksub (by repeat first | exact sub_nil | refine sub_cons rfl ?_ | refine sub_cons' rfl (by simp) ?_) (by repeat first | exact .refl | exact .nil | exact .z | apply Pk.s | refine Ge.e ?_ | apply Ge.pick | apply Ge.drop) (hJr21 _ hx)
                · (try simp only [decide_eq_true_eq, beq_iff_eq, beq_eq_false_iff_ne, decide_eq_decide, decide_eq_false_iff_not, Bool.not_eq_true', Bool.not_eq_false', Bool.not_eq_true, Bool.not_eq_false, Bool.not_not, ne_eq, Option.isNone_some, Option.isSome_some, Option.isNone_none, Option.isSome_none] at h126)
                  have hx : (1:Int) = maskC us k := by rw [hmk, if_neg (by rw [h126]; decide)]
                  refine cskip' (kthn ?_)
                  exact ksub (by repeat first | exact sub_nil | refine sub_cons rfl ?_ | refine sub_cons' rfl (by simp) ?_) (by repeat first | exact .refl | exact .nil | exact .z | apply Pk.s | refine Ge.e ?_ | apply Ge.pick | apply Ge.drop) (hJr21 _ hx)
              · (try simp only [decide_eq_true_eq, beq_iff_eq, beq_eq_false_iff_ne, decide_eq_decide, decide_eq_false_iff_not, Bool.not_eq_true', Bool.not_eq_false', Bool.not_eq_true, Bool.not_eq_false, Bool.not_not, ne_eq, Option.isNone_some, Option.isSome_some, Option.isNone_none, Option.isSome_none] at h59)
                refine cexit (kthx (kthx (kbx (kthn ?_))))
                exact ksub (by repeat first | exact sub_nil | refine sub_cons rfl ?_ | refine sub_cons' rfl (by simp) ?_) (by repeat first | exact .refl | exact .nil | exact .z | apply Pk.s | refine Ge.e ?_ | apply Ge.pick | apply Ge.drop) (hJ2 ⟨i, top, W, D⟩ ⟨hI2o, by first | trivial | omega⟩)
            · (try simp only [decide_eq_true_eq, beq_iff_eq, beq_eq_false_iff_ne, decide_eq_decide, decide_eq_false_iff_not, Bool.not_eq_true', Bool.not_eq_false', Bool.not_eq_true, Bool.not_eq_false, Bool.not_not, ne_eq, Option.isNone_some, Option.isSome_some, Option.isNone_none, Option.isSome_none] at h54)
              refine yg0 rfl rfl rfl rfl ?_
              refine yg0 rfl rfl rfl rfl ?_
              refine yg0 rfl rfl rfl rfl ?_
              refine y (ev_pick0 rfl rfl) rfl ?_
              refine ynil' (kthn (hK17 _ _ ?_))
              clear hK17
              refine ccond0 rfl ?_
              refine cexit (kthx (kthx (kbx (kthn ?_))))
              exact ksub (by repeat first | exact sub_nil | refine sub_cons rfl ?_ | refine sub_cons' rfl (by simp) ?_) (by repeat first | exact .refl | exact .nil | exact .z | apply Pk.s | refine Ge.e ?_ | apply Ge.pick | apply Ge.drop) (hJ2 ⟨i, top, W, D⟩ ⟨hI2o, by first | trivial | omega⟩)
          · (try simp only [decide_eq_true_eq, beq_iff_eq, beq_eq_false_iff_ne, decide_eq_decide, decide_eq_false_iff_not, Bool.not_eq_true', Bool.not_eq_false', Bool.not_eq_true, Bool.not_eq_false, Bool.not_not, ne_eq, Option.isNone_some, Option.isSome_some, Option.isNone_none, Option.isSome_none] at h49)
            refine yg0 rfl rfl rfl rfl ?_
            refine yg0 rfl rfl rfl rfl ?_
            refine y (ev_pick0 rfl rfl) rfl ?_
            refine y (ev_move rfl) rfl ?_
            refine yg0 rfl rfl rfl rfl ?_
            refine yg0 rfl rfl rfl rfl ?_
            refine yg0 rfl rfl rfl rfl ?_
            refine y (ev_pick0 rfl rfl) rfl ?_
            refine ynil' (kthn (hK17 _ _ ?_))
            clear hK17
            refine ccond0 rfl ?_
            refine cexit (kthx (kthx (kbx (kthn ?_))))
            exact ksub (by repeat first | exact sub_nil | refine sub_cons rfl ?_ | refine sub_cons' rfl (by simp) ?_) (by repeat first | exact .refl | exact .nil | exact .z | apply Pk.s | refine Ge.e ?_ | apply Ge.pick | apply Ge.drop) (hJ2 ⟨i, top, W, D⟩ ⟨hI2o, by first | trivial | omega⟩)
      clear hK7
      refine cblock ?_
      refine cloop (A := Nat × WitM) (fun x => [(6, i64 x.1), (5, ptr l18), (0, bv), (1, ov)]) (fun x => [lifeP l18 q18 (ptr s18) 1 mb18 false, ownM mb18 [] 0, witP s18 c18 x.2, celP c18 q18 x.2.c, dev q18 (Dev.new 2)] ++ R) (fun x => WGood x.2 (Dev.new 2) 0 ∧ x.2.f = .first ∧ x.2.wait = 1 ∧ x.2.left = 1 - x.1 ∧ x.1 ≤ 1) (fun x => 1 - x.1) ((0, W0)) ?_ (by repeat first | exact sub_nil | refine sub_cons rfl ?_ | refine sub_cons' rfl (by simp) ?_) (by repeat first | exact .refl | exact .nil | exact .z | apply Pk.s | refine Ge.e ?_ | apply Ge.pick | apply Ge.drop) ?_
      · exact ⟨hG0, hf0, hw0, by dsimp only; omega, Nat.zero_le _⟩
      rintro ⟨i, W⟩ hI1 KL1 hL1
      have hI1o := hI1
      obtain ⟨hG, hf, hw, hl, hi⟩ := hI1; dsimp only at hG hf hw hl hi ⊢
      refine cseq ?_; intro K29 hK29
      refine cseq ?_; intro K30 hK30
      refine creg ?_
      refine y (ev_move rfl) rfl ?_
      refine y (ev_move rfl) rfl ?_
      refine y (ev_nil rfl) rfl ?_
      refine y (ev_fieldAddr 2 rfl Try.underlying31 rfl Try.sizeOf2) rfl ?_
      refine y (ev_load rfl Try.isAgg2 (by repeat first | exact .z | apply In.s) rfl) rfl ?_
      refine y (ev_lss rfl rfl) rfl ?_
      refine ynil' (kthn (hK30 _ _ ?_))
      clear hK30
      refine ccond rfl (fun h138 => ?_) (fun h138 => ?_)
      · (try simp only [decide_eq_true_eq, beq_iff_eq, beq_eq_false_iff_ne, decide_eq_decide, decide_eq_false_iff_not, Bool.not_eq_true', Bool.not_eq_false', Bool.not_eq_true, Bool.not_eq_false, Bool.not_not, ne_eq, Option.isNone_some, Option.isSome_some, Option.isNone_none, Option.isSome_none] at h138)
        refine cskip' (kthn (hK29 _ _ ?_))
        clear hK29
        refine cseq ?_; intro K31 hK31
        refine cblock ?_
        refine creg ?_
        refine y (ev_move rfl) rfl ?_
        refine y (ev_nil rfl) rfl ?_
        refine y (ev_fieldAddr 1 rfl Try.underlying31 rfl Try.sizeOf28) rfl ?_
        refine y (ev_load rfl Try.isAgg28 (by repeat first | exact .z | apply In.s) rfl) rfl ?_
        refine ycall (wTick ?lf143) rfl Try.call15 (by repeat first | exact .nil | exact .z | apply Pk.s | apply Tk.cons) rfl ?_
        case lf143 => exact hG.left
        rintro v L' ⟨rfl, rfl⟩
        refine ynil' (kbn (kthn (hK31 _ _ ?_)))
        clear hK31
        refine creg ?_
        refine y (ev_move rfl) rfl ?_
        refine y (ev_add rfl rfl) rfl ?_
        rw [show IntKind.i64.wrap ((i:Int) + 1) = ((i+1 : Nat) : Int) by rw [wr (by omega) (by omega)]; rfl]
        refine y (ev_assign rfl) rfl ?_
        refine ynil' (kthn ?_)
        exact hL1 ((i + 1, W.tick)) (⟨hG.tick, hf, hw, by simp only [WitM.tick]; omega, by dsimp only; omega⟩) (by dsimp only; omega) _ _ (by repeat first | exact sub_nil | refine sub_cons rfl ?_ | refine sub_cons' rfl (by simp) ?_) (by repeat first | exact .refl | exact .nil | exact .z | apply Pk.s | refine Ge.e ?_ | apply Ge.pick | apply Ge.drop)
      · (try simp only [decide_eq_true_eq, beq_iff_eq, beq_eq_false_iff_ne, decide_eq_decide, decide_eq_false_iff_not, Bool.not_eq_true', Bool.not_eq_false', Bool.not_eq_true, Bool.not_eq_false, Bool.not_not, ne_eq, Option.isNone_some, Option.isSome_some, Option.isNone_none, Option.isSome_none] at h138)
        refine cexit (kthx (kthx (kbx (kthn ?_))))
        exact ksub (by repeat first | exact sub_nil | refine sub_cons rfl ?_ | refine sub_cons' rfl (by simp) ?_) (by repeat first | exact .refl | exact .nil | exact .z | apply Pk.s | refine Ge.e ?_ | apply Ge.pick | apply Ge.drop) (hJ1 ⟨i, W⟩ ⟨hI1o, by first | trivial | omega⟩)
end W
end Go.Proofs
