/- A part of the proof: contracts and plain lemmas, each without conditions beyond those that it names. -/
import Derived.Test.YtnfbhgalkcmbdaaL8
import Derived.Test.YtnfbhgalkcmbdaaGL
set_option linter.unusedVariables false
set_option linter.unusedSimpArgs false
set_option linter.constructorNameAsVariable false
namespace Go.Proofs
open Go Go.Sl
namespace W
set_option linter.unusedVariables false
theorem lawLRing [Env] {R : List Seg} {bv cv : Int} {lv : Value} {texts : List Bytes} (hb : 0 ≤ bv ∧ bv ≤ 255) (hc : 0 ≤ cv ∧ cv ≤ 255) (hl : RdV R lv texts.length (strsV texts)) :
    Con Try.prog 6 [.int .u8 bv, lv, .int .u8 cv] [] R (Is (.bool true) []) := by
  have hvl := hl.lenVal
  refine con_enter Try.func6 Try.ntmps6 rfl rfl ?_
  refine cseq ?_; intro K1 hK1
  refine creg ?_
  refine y (ev_assign rfl) rfl ?_
  refine ynil' (kthn (hK1 _ _ ?_))
  clear hK1
  refine cseq ?_; intro K2 hK2
  refine cseq ?_; intro K3 hK3
  refine creg ?_
  refine ycall (awake6) rfl Try.call25 (by repeat first | exact .nil | exact .z | apply Pk.s | apply Tk.cons) rfl ?_
  rintro v L' ⟨rfl, rfl⟩
  skip
  · skip
    refine y (ev_not rfl) rfl ?_
    refine ynil' (kthn (hK3 _ _ ?_))
    clear hK3
    refine ccond0 rfl ?_
    refine cskip' (kthn (hK2 _ _ ?_))
    clear hK2
    refine cseq ?_; intro K4 hK4
    refine creg ?_
    refine y (ev_move rfl) rfl ?_
    refine y (ev_rem rfl rfl (by decide)) rfl ?_
    refine y (ev_conv rfl Try.underlying5 Try.underlying3) rfl ?_
    refine y (ev_add rfl rfl) rfl ?_
    rw [nRing_eq hb.1 hb.2]; obtain ⟨n2, n20⟩ := nRing_le bv; obtain ⟨n, hn0⟩ : ∃ n, nRing bv = n := ⟨_, rfl⟩; rw [hn0] at n2 n20 ⊢
    have hG0 : LDev 0 n n (n + 1) (Dev.new (n + 2)) (n + 2) 0 1 0 0 [] := new_ldev (by omega) n2 ⟨by decide, by omega⟩ (by omega) ⟨by omega, by omega⟩ ⟨by omega, by omega⟩ (by unfold inRing; omega) (by unfold inRing; omega)
    refine y (ev_assign rfl) rfl ?_
    refine ynil' (kthn (hK4 _ _ ?_))
    clear hK4
    refine cseq ?_; intro K5 hK5
    refine creg ?_
    refine y (ev_move rfl) rfl ?_
    refine y (ev_add rfl rfl) rfl ?_
    rw [wr (by omega) (by omega), show (n : Int) + 2 = ((n + 2 : Nat) : Int) by omega]
    refine ycall (secNew (n := n + 2) (by omega)) rfl Try.call12 (by repeat first | exact .nil | exact .z | apply Pk.s | apply Tk.cons) rfl ?_
    rintro v L' ⟨q24, rfl, rfl⟩
    refine y (ev_assign rfl) rfl ?_
    refine ynil' (kthn (hK5 _ _ ?_))
    clear hK5
    refine cseq ?_; intro K6 hK6
    refine cseq ?_; intro K7 hK7
    refine creg ?_
    refine y (ev_move rfl) rfl ?_
    skip
    · skip
      refine y (ev_eqlPnil rfl rfl Try.underlying24) rfl ?_
      refine ynil' (kthn (hK7 _ _ ?_))
      clear hK7
      refine ccond0 rfl ?_
      refine cskip' (kthn (hK6 _ _ ?_))
      clear hK6
      refine cseq ?_; intro K8 hK8
      refine creg ?_
      refine y (ev_move rfl) rfl ?_
      refine y (ev_move rfl) rfl ?_
      refine y (ev_move rfl) rfl ?_
      refine y (ev_move rfl) rfl ?_
      refine y (ev_add rfl rfl) rfl ?_
      rw [wr (by omega) (by omega)]
      refine ycall (gOpen hG0 (by decide) rfl) rfl Try.call26 (by repeat first | exact .nil | exact .z | apply Pk.s | apply Tk.cons) rfl ?_
      rintro v L' ⟨D1, p33, c33, s33, rfl, hG1, hf33, ok33, rfl⟩
      refine y (ev_move rfl) rfl ?_
      refine y (ev_extract rfl rfl) rfl ?_
      refine y (ev_extract rfl rfl) rfl ?_
      refine y (ev_assign rfl) rfl ?_
      refine y (ev_assign rfl) rfl ?_
      refine ynil' (kthn (hK8 _ _ ?_))
      clear hK8
      refine cseq ?_; intro K9 hK9
      refine cseq ?_; intro K10 hK10
      refine creg ?_
      refine y (ev_move rfl) rfl ?_
      skip
      · skip
        refine y (ev_eqlPnil rfl rfl Try.underlying46) rfl ?_
        refine ynil' (kthn (hK10 _ _ ?_))
        clear hK10
        refine ccond0 rfl ?_
        refine cskip' (kthn (hK9 _ _ ?_))
        clear hK9
        refine cseq ?_; intro K11 hK11
        refine creg ?_
        refine ya (ac_bslice0 Try.underlying45 Try.sizeOf9) rfl ?_
        rintro v L' ⟨b38, rfl, rfl⟩
        refine y (ev_assign rfl) rfl ?_
        refine ynil' (kthn (hK11 _ _ ?_))
        clear hK11
        refine cseq ?_; intro K12 hK12
        refine cseq ?_; intro K13 hK13
        refine creg ?_
        refine y (ev_assign rfl) rfl ?_
        refine ynil' (kthn (hK13 _ _ ?_))
        clear hK13
        have hJ1 : ∀ x : Nat × LgM × Ov, ((LDev 0 n n (n + 1) x.2.1.D (n + 2) (2 * x.1 + 1) x.2.1.h 1 x.2.1.le x.2.1.l ∧ itOk x.2.1.sl (logD 0 n n (n + 1) x.2.1.D x.2.1.h 1 x.2.1.le x.2.1.l) ∧ ovOk x.2.2 x.2.1.l.length 1 (strsV (x.2.1.l.map (·.1))) ∧ x.1 ≤ texts.length ∧ x.1 ≤ 200) ∧ (True)) → Sk 155 K12 ([(12, i64 x.1), (11, ovVal x.2.2 x.2.1.l.length), (9, ptr p33), (8, dp q24), (7, i64 n), (1, lv), (2, .int .u8 cv)]) ([logG p33 c33 q24 x.2.1.sl (logD 0 n n (n + 1) x.2.1.D x.2.1.h 1 x.2.1.le x.2.1.l), dev q24 x.2.1.D, ovSeg x.2.2 9 (strsV (x.2.1.l.map (·.1)))] ++ R) := by
          rintro ⟨i, ⟨sl, D, h, le, l⟩, ov⟩ ⟨hI1, hX1⟩
          refine hK12 _ _ ?_
          obtain ⟨hG, ok, hov, hi1, hi2⟩ := hI1; dsimp only at hG ok hov hi1 hi2 ⊢; have hlim := hG.lim; have hll := hG.ll; have hh1 := hG.h1; have hht := hG.ht; have hro : RdV [ovSeg ov 9 (strsV (l.map (·.1)))] (ovVal ov l.length) l.length (strsV (l.map (·.1))) := rdV_ov .z hov
          skip
          refine cseq ?_; intro K14 hK14
          refine creg ?_
          refine y (ev_move rfl) rfl ?_
          refine y (ev_move rfl) rfl ?_
          refine y (ev_move rfl) rfl ?_
          refine y (ev_move rfl) rfl ?_
          refine y (ev_add rfl rfl) rfl ?_
          rw [wr (by omega) (by omega)]
          refine ycall (gOpen hG (by omega) rfl) rfl Try.call26 (by repeat first | exact .nil | exact .z | apply Pk.s | apply Tk.cons) rfl ?_
          rintro v L' ⟨D2, p125, c125, s125, rfl, hG2, hf125, ok125, rfl⟩
          refine y (ev_move rfl) rfl ?_
          refine y (ev_extract rfl rfl) rfl ?_
          refine y (ev_extract rfl rfl) rfl ?_
          refine y (ev_assign rfl) rfl ?_
          refine y (ev_assign rfl) rfl ?_
          refine ynil' (kthn (hK14 _ _ ?_))
          clear hK14
          refine cseq ?_; intro K15 hK15
          refine creg ?_
          refine y (ev_move rfl) rfl ?_
          skip
          · skip
            refine y (ev_eql rfl rfl) rfl ?_
            refine y (ev_move rfl) rfl ?_
            refine yg1 rfl rfl ?_
            refine y (ev_move rfl) rfl ?_
            refine yg1 rfl rfl ?_
            refine y (ev_neqPnil rfl rfl Try.underlying46) rfl ?_
            refine y (ev_pick1 rfl rfl) rfl ?_
            refine y (ev_move rfl) rfl ?_
            refine yg1 rfl rfl ?_
            refine y (ev_move rfl) rfl ?_
            refine yg1 rfl rfl ?_
            refine ycall (bRecords ?ra50 ?rb50) rfl Try.call31 (by repeat first | exact .nil | exact .z | apply Pk.s | apply Tk.cons) rfl ?_
            case ra50 => first | assumption | exact ok
            case rb50 => (show l.length ≤ 512; omega)
            rintro v L' ⟨s136, rfl, ok136, rfl⟩
            refine yg1 rfl rfl ?_
            refine y (ev_move rfl) rfl ?_
            refine yg1 rfl rfl ?_
            refine ycall (nSame (u1 := l.map (·.1)) (u2 := l.map (·.1)) ?ia52 ?ib52 ?ic52) rfl Try.call30 (by repeat first | exact .nil | exact .z | apply Pk.s | apply Tk.cons) rfl ?_
            case ia52 => exact rdV_sv (by repeat first | exact .z | apply In.s) (by assumption)
            case ib52 => (rw [List.length_map]; exact hro.mono (by repeat first | exact .refl | exact .nil | exact .z | apply Pk.s | refine Ge.e ?_ | apply Ge.pick | apply Ge.drop))
            case ic52 => (simp; omega)
            rintro v L' ⟨rfl, rfl⟩
            rw [show (decide (l.map (·.1) = l.map (·.1))) = true by simp]
            refine y (ev_pick1 rfl rfl) rfl ?_
            refine y (ev_move rfl) rfl ?_
            refine yg1 rfl rfl ?_
            refine y (ev_move rfl) rfl ?_
            refine yg1 rfl rfl ?_
            refine ycall (bHead) rfl Try.call29 (by repeat first | exact .nil | exact .z | apply Pk.s | apply Tk.cons) rfl ?_
            rintro v L' ⟨rfl, rfl⟩
            refine yg1 rfl rfl ?_
            refine y (ev_move rfl) rfl ?_
            refine yg1 rfl rfl ?_
            refine ycall (bHead) rfl Try.call29 (by repeat first | exact .nil | exact .z | apply Pk.s | apply Tk.cons) rfl ?_
            rintro v L' ⟨rfl, rfl⟩
            refine yg1 rfl rfl ?_
            refine y (ev_eql rfl rfl) rfl ?_
            rw [show (decide ((logD 0 n n (n + 1) D2 h (1 + 1) le l).head = (logD 0 n n (n + 1) D h 1 le l).head)) = true by simp]
            refine y (ev_pick1 rfl rfl) rfl ?_
            refine y (ev_move rfl) rfl ?_
            refine yg1 rfl rfl ?_
            refine y (ev_move rfl) rfl ?_
            refine yg1 rfl rfl ?_
            refine ycall (bTime) rfl Try.call33 (by repeat first | exact .nil | exact .z | apply Pk.s | apply Tk.cons) rfl ?_
            rintro v L' ⟨rfl, rfl⟩
            refine yg1 rfl rfl ?_
            refine y (ev_move rfl) rfl ?_
            refine yg1 rfl rfl ?_
            refine ycall (bTime) rfl Try.call33 (by repeat first | exact .nil | exact .z | apply Pk.s | apply Tk.cons) rfl ?_
            rintro v L' ⟨rfl, rfl⟩
            refine yg1 rfl rfl ?_
            refine y (ev_add rfl rfl) rfl ?_
            refine yg1 rfl rfl ?_
            refine y (ev_eql rfl rfl) rfl ?_
            refine y (ev_pick1 rfl rfl) rfl ?_
            refine y (ev_assign rfl) rfl ?_
            refine ynil' (kthn (hK15 _ _ ?_))
            clear hK15
            refine cret ?_
            first
              | (exfalso; omega; done)
              | (refine kretv Try.results6 rfl (L1 := R) (by repeat first | exact .refl | exact .nil | exact .z | apply Pk.s | refine Ge.e ?_ | apply Ge.pick | apply Ge.drop) ?_
                 exact ⟨_, ⟨by first | rfl | (exfalso; simp_all; done), rfl⟩, by first | rfl | (exfalso; simp_all; done)⟩)
        clear hK12
        refine cblock ?_
        refine cloop (A := Nat × LgM × Ov) (fun x => [(12, i64 x.1), (11, ovVal x.2.2 x.2.1.l.length), (9, ptr p33), (8, dp q24), (7, i64 n), (1, lv), (2, .int .u8 cv)]) (fun x => [logG p33 c33 q24 x.2.1.sl (logD 0 n n (n + 1) x.2.1.D x.2.1.h 1 x.2.1.le x.2.1.l), dev q24 x.2.1.D, ovSeg x.2.2 9 (strsV (x.2.1.l.map (·.1)))] ++ R) (fun x => LDev 0 n n (n + 1) x.2.1.D (n + 2) (2 * x.1 + 1) x.2.1.h 1 x.2.1.le x.2.1.l ∧ itOk x.2.1.sl (logD 0 n n (n + 1) x.2.1.D x.2.1.h 1 x.2.1.le x.2.1.l) ∧ ovOk x.2.2 x.2.1.l.length 1 (strsV (x.2.1.l.map (·.1))) ∧ x.1 ≤ texts.length ∧ x.1 ≤ 200) (fun x => 200 - x.1) ((0, ⟨s33, D1, 1, 0, []⟩, some (b38, 0, [], []))) ?_ (by repeat first | exact sub_nil | refine sub_cons rfl ?_ | refine sub_cons' rfl (by simp) ?_) (by repeat first | exact .refl | exact .nil | exact .z | apply Pk.s | refine Ge.e ?_ | apply Ge.pick | apply Ge.drop) ?_
        · exact ⟨hG1, ok33, ⟨Nat.le_refl _, by decide, rfl, Nat.zero_le _⟩, Nat.zero_le _, Nat.zero_le _⟩
        rintro ⟨i, ⟨sl, D, h, le, l⟩, ov⟩ hI1 KL1 hL1
        have hI1o := hI1
        obtain ⟨hG, ok, hov, hi1, hi2⟩ := hI1; dsimp only at hG ok hov hi1 hi2 ⊢; have hlim := hG.lim; have hll := hG.ll; have hh1 := hG.h1; have hht := hG.ht; have hro : RdV [ovSeg ov 9 (strsV (l.map (·.1)))] (ovVal ov l.length) l.length (strsV (l.map (·.1))) := rdV_ov .z hov
        refine cseq ?_; intro K16 hK16
        refine cseq ?_; intro K17 hK17
        refine creg ?_
        refine y (ev_move rfl) rfl ?_
        refine y (ev_move rfl) rfl ?_
        first
          | refine y (ev_len rfl Try.underlying45) rfl ?_
          | refine y (ev_lenSv rfl Try.underlying45 (by assumption)) rfl ?_
          | refine y (ev_lenV rfl Try.underlying45 (RdV.lenVal (by assumption))) rfl ?_
          | refine y (ev_lenV rfl Try.underlying45 (RdB.lenVal (by assumption))) rfl ?_
        refine y (ev_lss rfl rfl) rfl ?_
        refine y (ev_move rfl) rfl ?_
        refine ysplit 43 rfl (fun h75 => ?_) (fun h75 => ?_)
        · (try simp only [decide_eq_true_eq, beq_iff_eq, beq_eq_false_iff_ne, decide_eq_decide, decide_eq_false_iff_not, Bool.not_eq_true', Bool.not_eq_false', Bool.not_eq_true, Bool.not_eq_false, Bool.not_not, ne_eq, Option.isNone_some, Option.isSome_some, Option.isNone_none, Option.isSome_none] at h75)
          refine yg1 rfl rfl ?_
          refine y (ev_move rfl) rfl ?_
          refine yg1 rfl rfl ?_
          refine y (ev_lss rfl rfl) rfl ?_
          refine y (ev_pick1 rfl rfl) rfl ?_
          refine ynil' (kthn (hK17 _ _ ?_))
          clear hK17
          refine ccond rfl (fun h79 => ?_) (fun h79 => ?_)
          · (try simp only [decide_eq_true_eq, beq_iff_eq, beq_eq_false_iff_ne, decide_eq_decide, decide_eq_false_iff_not, Bool.not_eq_true', Bool.not_eq_false', Bool.not_eq_true, Bool.not_eq_false, Bool.not_not, ne_eq, Option.isNone_some, Option.isSome_some, Option.isNone_none, Option.isSome_none] at h79)
            refine cskip' (kthn (hK16 _ _ ?_))
            clear hK16
            refine cseq ?_; intro K18 hK18
            have hJr13 : ∀ x : LgM × Ov, (LDev 0 n n (n + 1) x.1.D (n + 2) (2 * i + 3) x.1.h 1 x.1.le x.1.l ∧ itOk x.1.sl (logD 0 n n (n + 1) x.1.D x.1.h 1 x.1.le x.1.l) ∧ ovOk x.2 x.1.l.length 1 (strsV (x.1.l.map (·.1)))) → Sk 155 K18 ([(12, i64 i), (11, ovVal x.2 x.1.l.length), (9, ptr p33), (8, dp q24), (7, i64 n), (1, lv), (2, .int .u8 cv)]) ([logG p33 c33 q24 x.1.sl (logD 0 n n (n + 1) x.1.D x.1.h 1 x.1.le x.1.l), dev q24 x.1.D, ovSeg x.2 9 (strsV (x.1.l.map (·.1)))] ++ R) := by
              rintro ⟨⟨sl, D, h, le, l⟩, ov⟩ hIr13
              refine hK18 _ _ ?_
              obtain ⟨hG, ok, hov⟩ := hIr13; dsimp only at hG ok hov ⊢; have hi3 : i < 200 ∧ i < texts.length := by omega
              refine creg ?_
              refine y (ev_move rfl) rfl ?_
              refine y (ev_add rfl rfl) rfl ?_
              rw [show IntKind.i64.wrap ((i:Int) + 1) = ((i+1 : Nat) : Int) by rw [wr (by omega) (by omega)]; rfl]
              refine y (ev_assign rfl) rfl ?_
              refine ynil' (kthn ?_)
              exact hL1 ((i + 1, ⟨sl, D, h, le, l⟩, ov)) (⟨hG, ok, hov, by dsimp only; omega, by dsimp only; omega⟩) (by dsimp only; omega) _ _ (by repeat first | exact sub_nil | refine sub_cons rfl ?_ | refine sub_cons' rfl (by simp) ?_) (by repeat first | exact .refl | exact .nil | exact .z | apply Pk.s | refine Ge.e ?_ | apply Ge.pick | apply Ge.drop)
            clear hK18
            refine cblock ?_
            refine cseq ?_; intro K19 hK19
            refine cseq ?_; intro K20 hK20
            refine creg ?_
            obtain ⟨tx, htx⟩ : ∃ y, texts[i]? = some y := ⟨_, List.getElem?_eq_getElem (by omega)⟩
            refine y (ev_move rfl) rfl ?_
            refine y (ev_move rfl) rfl ?_
            refine y (ev_ixV hl rfl rfl Try.underlying45 Try.sizeOf9 (by omega) (by omega)) rfl ?_
            refine y (ev_loadV i hl (by repeat first | exact .refl | exact .nil | exact .z | apply Pk.s | refine Ge.e ?_ | apply Ge.pick | apply Ge.drop) rfl Try.isAgg9 (by simp) (strsV_get htx)) rfl ?_
            first
              | refine y (ev_lenStr rfl Try.underlying9) rfl ?_
              | refine y (ev_lenS rfl Try.underlying9) rfl ?_
            refine y (ev_gtr rfl rfl) rfl ?_
            refine ynil' (kthn (hK20 _ _ ?_))
            clear hK20
            refine ccond rfl (fun h89 => ?_) (fun h89 => ?_)
            · (try simp only [decide_eq_true_eq, beq_iff_eq, beq_eq_false_iff_ne, decide_eq_decide, decide_eq_false_iff_not, Bool.not_eq_true', Bool.not_eq_false', Bool.not_eq_true, Bool.not_eq_false, Bool.not_not, ne_eq, Option.isNone_some, Option.isSome_some, Option.isNone_none, Option.isSome_none] at h89)
              refine cseq ?_; intro K21 hK21
              refine cseq ?_; intro K22 hK22
              refine creg ?_
              refine y (ev_move rfl) rfl ?_
              refine y (ev_move rfl) rfl ?_
              refine y (ev_move rfl) rfl ?_
              refine y (ev_ixV hl rfl rfl Try.underlying45 Try.sizeOf9 (by omega) (by omega)) rfl ?_
              refine y (ev_loadV i hl (by repeat first | exact .refl | exact .nil | exact .z | apply Pk.s | refine Ge.e ?_ | apply Ge.pick | apply Ge.drop) rfl Try.isAgg9 (by simp) (strsV_get htx)) rfl ?_
              refine ycall (gAppend (s := tx) (N := n + 2) (k := 2 * i + 1) ?ag95 ?ak95 ?as95) rfl Try.call27 (by repeat first | exact .nil | exact .z | apply Pk.s | apply Tk.cons) rfl ?_
              case ag95 => exact hG
              case ak95 => omega
              case as95 => exact ok
              rintro v L' ⟨s60, D60, l60, rfl, hG60, hl60, hf60, hz60, ok60, rfl⟩
              rw [if_pos (by omega)]
              rw [if_neg (by omega)] at hl60
              obtain rfl := hl60.symm
              have hj : LDev 0 n n (n + 1) D60 (n + 2) (2 * i + 3) h 1 le l ∧ itOk s60 (logD 0 n n (n + 1) D60 h 1 le l) ∧ ovOk ov l.length 1 (strsV (l.map (·.1))) := ⟨hG60.up1, ok60, hov⟩
              refine y (ev_neq rfl rfl) rfl ?_
              refine ynil' (kthn (hK22 _ _ ?_))
              clear hK22
              refine ccond rfl (fun h97 => ?_) (fun h97 => ?_)
              · (try simp only [decide_eq_true_eq, beq_iff_eq, beq_eq_false_iff_ne, decide_eq_decide, decide_eq_false_iff_not, Bool.not_eq_true', Bool.not_eq_false', Bool.not_eq_true, Bool.not_eq_false, Bool.not_not, ne_eq, Option.isNone_some, Option.isSome_some, Option.isNone_none, Option.isSome_none] at h97)
                refine cseq ?_; intro K23 hK23
                refine creg ?_
                refine y (ev_assign rfl) rfl ?_
                refine ynil' (kthn (hK23 _ _ ?_))
                clear hK23
                refine cret (kthr (kthr (kbr (kthr (kthr (kbr (kthr ?_)))))))
                first
                  | (exfalso; omega; done)
                  | (refine kretv Try.results6 rfl (L1 := R) (by repeat first | exact .refl | exact .nil | exact .z | apply Pk.s | refine Ge.e ?_ | apply Ge.pick | apply Ge.drop) ?_
                     exact ⟨_, ⟨by first | rfl | (exfalso; simp_all; done), rfl⟩, by first | rfl | (exfalso; simp_all; done)⟩)
              · (try simp only [decide_eq_true_eq, beq_iff_eq, beq_eq_false_iff_ne, decide_eq_decide, decide_eq_false_iff_not, Bool.not_eq_true', Bool.not_eq_false', Bool.not_eq_true, Bool.not_eq_false, Bool.not_not, ne_eq, Option.isNone_some, Option.isSome_some, Option.isNone_none, Option.isSome_none] at h97)
                refine cskip' (kthn (hK21 _ _ ?_))
                clear hK21
                refine cexit (kthx (kbx (kthn ?_)))
                exact ksub (by repeat first | exact sub_nil | refine sub_cons rfl ?_ | refine sub_cons' rfl (by simp) ?_) (by repeat first | exact .refl | exact .nil | exact .z | apply Pk.s | refine Ge.e ?_ | apply Ge.pick | apply Ge.drop) (hJr13 (⟨_, _, _, _, _⟩, _) hj)
            · (try simp only [decide_eq_true_eq, beq_iff_eq, beq_eq_false_iff_ne, decide_eq_decide, decide_eq_false_iff_not, Bool.not_eq_true', Bool.not_eq_false', Bool.not_eq_true, Bool.not_eq_false, Bool.not_not, ne_eq, Option.isNone_some, Option.isSome_some, Option.isNone_none, Option.isSome_none] at h89)
              refine cskip' (kthn (hK19 _ _ ?_))
              clear hK19
              refine cseq ?_; intro K24 hK24
              refine creg ?_
              refine y (ev_move rfl) rfl ?_
              refine y (ev_move rfl) rfl ?_
              refine y (ev_move rfl) rfl ?_
              refine y (ev_ixV hl rfl rfl Try.underlying45 Try.sizeOf9 (by omega) (by omega)) rfl ?_
              refine y (ev_loadV i hl (by repeat first | exact .refl | exact .nil | exact .z | apply Pk.s | refine Ge.e ?_ | apply Ge.pick | apply Ge.drop) rfl Try.isAgg9 (by simp) (strsV_get htx)) rfl ?_
              refine ycall (gAppend (s := tx) (N := n + 2) (k := 2 * i + 1) ?ag104 ?ak104 ?as104) rfl Try.call27 (by repeat first | exact .nil | exact .z | apply Pk.s | apply Tk.cons) rfl ?_
              case ag104 => exact hG
              case ak104 => omega
              case as104 => exact ok
              rintro v L' ⟨s67, D67, l67, rfl, hG67, hl67, hf67, hz67, ok67, rfl⟩
              rw [if_neg (by omega)]
              refine y (ev_assign rfl) rfl ?_
              refine ynil' (kthn (hK24 _ _ ?_))
              clear hK24
              refine cseq ?_; intro K25 hK25
              refine cseq ?_; intro K26 hK26
              refine creg ?_
              rcases Nat.lt_or_ge l.length n with hlt | hge
              · skip
                refine y (ev_move rfl) rfl ?_
                first | rw [if_neg (show ¬ n = l.length by omega)] | rw [if_pos (show n = l.length by omega)]
                refine y (ev_eql rfl rfl) rfl ?_
                refine y (ev_move rfl) rfl ?_
                refine y (ev_lenV rfl Try.underlying45 hro.lenVal) rfl ?_
                refine y (ev_move rfl) rfl ?_
                refine y (ev_lss rfl rfl) rfl ?_
                refine y (ev_neqB rfl rfl Try.underlying4) rfl ?_
                first | rw [show (!((decide ((0 : Int) = 0)) == (decide ((l.length : Int) < n)))) = false by simp; omega] | rw [show (!((decide ((12 : Int) = 0)) == (decide ((l.length : Int) < n)))) = false by simp; omega]
                refine y (ev_move rfl) rfl ?_
                refine yg1 rfl rfl ?_
                refine y (ev_move rfl) rfl ?_
                refine yg1 rfl rfl ?_
                refine y (ev_neq rfl rfl) rfl ?_
                refine yg1 rfl rfl ?_
                refine y (ev_move rfl) rfl ?_
                refine yg0 rfl rfl rfl rfl ?_
                refine yg0 rfl rfl rfl rfl ?_
                refine yg1 rfl rfl ?_
                refine y (ev_pick0 rfl rfl) rfl ?_
                refine y (ev_pick0 rfl rfl) rfl ?_
                refine ynil' (kthn (hK26 _ _ ?_))
                clear hK26
                refine ccond0 rfl ?_
                refine cskip' (kthn (hK25 _ _ ?_))
                clear hK25
                refine cseq ?_; intro K27 hK27
                have hJr22 : ∀ x : Ov, (ovOk x l67.length 1 (strsV (l67.map (·.1)))) → Sk 155 K27 ([(12, i64 i), (11, ovVal x l67.length), (9, ptr p33), (8, dp q24), (7, i64 n), (1, lv), (2, .int .u8 cv)]) ([logG p33 c33 q24 s67 (logD 0 n n (n + 1) D67 h 1 le l67), dev q24 D67, ovSeg x 9 (strsV (l67.map (·.1)))] ++ R) := by
                  rintro ov hIr22
                  refine hK27 _ _ ?_
                  have hov := hIr22; have hll := hG67.ll; have hht := hG67.ht; have hro : RdV [ovSeg ov 9 (strsV (l67.map (·.1)))] (ovVal ov l67.length) l67.length (strsV (l67.map (·.1))) := rdV_ov .z hov
                  refine cseq ?_; intro K28 hK28
                  have hJr26 : ∀ x : LgM × Ov, (LDev 0 n n (n + 1) x.1.D (n + 2) (2 * i + 3) x.1.h 1 x.1.le x.1.l ∧ itOk x.1.sl (logD 0 n n (n + 1) x.1.D x.1.h 1 x.1.le x.1.l) ∧ ovOk x.2 x.1.l.length 1 (strsV (x.1.l.map (·.1)))) → Sk 155 K28 ([(12, i64 i), (11, ovVal x.2 x.1.l.length), (9, ptr p33), (8, dp q24), (7, i64 n), (1, lv), (2, .int .u8 cv)]) ([logG p33 c33 q24 x.1.sl (logD 0 n n (n + 1) x.1.D x.1.h 1 x.1.le x.1.l), dev q24 x.1.D, ovSeg x.2 9 (strsV (x.1.l.map (·.1)))] ++ R) := by
                    rintro ⟨⟨sl, D, h, le, l⟩, ov⟩ hIr26
                    refine hK28 _ _ ?_
                    obtain ⟨hG, ok, hov⟩ := hIr26; dsimp only at hG ok hov ⊢; have hll := hG.ll; have hro : RdV [ovSeg ov 9 (strsV (l.map (·.1)))] (ovVal ov l.length) l.length (strsV (l.map (·.1))) := rdV_ov .z hov
                    have hj := And.intro hG (And.intro ok hov)
                    refine cseq ?_; intro K29 hK29
                    refine creg ?_
                    refine y (ev_move rfl) rfl ?_
                    skip
                    · skip
                      refine ycall (bRecords ?ra120 ?rb120) rfl Try.call31 (by repeat first | exact .nil | exact .z | apply Pk.s | apply Tk.cons) rfl ?_
                      case ra120 => first | assumption | exact ok
                      case rb120 => (show l.length ≤ 512; omega)
                      rintro v L' ⟨s106, rfl, ok106, rfl⟩
                      refine y (ev_move rfl) rfl ?_
                      refine ycall (nSame (u1 := l.map (·.1)) (u2 := l.map (·.1)) ?ia122 ?ib122 ?ic122) rfl Try.call30 (by repeat first | exact .nil | exact .z | apply Pk.s | apply Tk.cons) rfl ?_
                      case ia122 => exact rdV_sv (by repeat first | exact .z | apply In.s) (by assumption)
                      case ib122 => (rw [List.length_map]; exact hro.mono (by repeat first | exact .refl | exact .nil | exact .z | apply Pk.s | refine Ge.e ?_ | apply Ge.pick | apply Ge.drop))
                      case ic122 => (simp; omega)
                      rintro v L' ⟨rfl, rfl⟩
                      rw [show (decide (l.map (·.1) = l.map (·.1))) = true by simp]
                      refine y (ev_not rfl) rfl ?_
                      refine y (ev_move rfl) rfl ?_
                      refine yg1 rfl rfl ?_
                      refine y (ev_move rfl) rfl ?_
                      refine yg1 rfl rfl ?_
                      refine ycall (bFree ?fa126 ?fb126 ?fc126) rfl Try.call32 (by repeat first | exact .nil | exact .z | apply Pk.s | apply Tk.cons) rfl ?_
                      case fa126 => exact ok
                      case fb126 => (show n ≤ 512; omega)
                      case fc126 => (show l.length ≤ 512; omega)
                      rintro v L' ⟨rfl, rfl⟩
                      refine yg1 rfl rfl ?_
                      refine y (ev_move rfl) rfl ?_
                      refine yg1 rfl rfl ?_
                      refine y (ev_move rfl) rfl ?_
                      refine yg1 rfl rfl ?_
                      refine y (ev_lenV rfl Try.underlying45 hro.lenVal) rfl ?_
                      refine yg1 rfl rfl ?_
                      refine y (ev_sub rfl rfl) rfl ?_
                      rw [wr (by omega) (by omega)]
                      refine yg1 rfl rfl ?_
                      refine y (ev_neq rfl rfl) rfl ?_
                      rw [show (!decide (((logD 0 n n (n + 1) D h 1 le l).n : Int) - (logD 0 n n (n + 1) D h 1 le l).l.length = (n : Int) - l.length)) = false by simp]
                      refine y (ev_pick0 rfl rfl) rfl ?_
                      refine ynil' (kthn (hK29 _ _ ?_))
                      clear hK29
                      refine ccond0 rfl ?_
                      refine cskip' (kbn (kthn ?_))
                      exact ksub (by repeat first | exact sub_nil | refine sub_cons rfl ?_ | refine sub_cons' rfl (by simp) ?_) (by repeat first | exact .refl | exact .nil | exact .z | apply Pk.s | refine Ge.e ?_ | apply Ge.pick | apply Ge.drop) (hJr13 (⟨_, _, _, _, _⟩, _) hj)
                  clear hK28
                  refine cseq ?_; intro K30 hK30
                  refine creg ?_
                  refine y (ev_move rfl) rfl ?_
                  refine y (ev_lenV rfl Try.underlying45 hro.lenVal) rfl ?_
                  refine y (ev_move rfl) rfl ?_
                  refine y (ev_conv rfl Try.underlying5 Try.underlying3) rfl ?_
                  rw [wr (by omega) (by omega)]
                  refine y (ev_gtr rfl rfl) rfl ?_
                  refine ynil' (kthn (hK30 _ _ ?_))
                  clear hK30
                  refine ccond rfl (fun h138 => ?_) (fun h138 => ?_)
                  · (try simp only [decide_eq_true_eq, beq_iff_eq, beq_eq_false_iff_ne, decide_eq_decide, decide_eq_false_iff_not, Bool.not_eq_true', Bool.not_eq_false', Bool.not_eq_true, Bool.not_eq_false, Bool.not_not, ne_eq, Option.isNone_some, Option.isSome_some, Option.isNone_none, Option.isSome_none] at h138)
                    refine cseq ?_; intro K31 hK31
                    refine cseq ?_; intro K32 hK32
                    refine creg ?_
                    refine y (ev_move rfl) rfl ?_
                    refine y (ev_move rfl) rfl ?_
                    refine ycall (bHead) rfl Try.call29 (by repeat first | exact .nil | exact .z | apply Pk.s | apply Tk.cons) rfl ?_
                    rintro v L' ⟨rfl, rfl⟩
                    refine y (ev_add rfl rfl) rfl ?_
                    rw [show (logD 0 n n (n + 1) D67 h 1 le l67).head = h from rfl, wr (by omega) (by omega)]
                    refine ycall (gTrim (m := h + 1) (N := n + 2) (k := 2 * i + 2) ?ag143 ?ak143 ?as143) rfl Try.call28 (by repeat first | exact .nil | exact .z | apply Pk.s | apply Tk.cons) rfl ?_
                    case ag143 => exact hG67
                    case ak143 => omega
                    case as143 => exact ok67
                    rintro v L' ⟨s101, D101, h101, e101, l101, rfl, hG101, hh101, hl101, hf101, ok101, rfl⟩
                    rw [if_pos ⟨by omega, by omega⟩] at hh101 hl101 ⊢
                    rw [show (h + 1 - h).toNat = 1 by omega] at hl101
                    refine y (ev_neq rfl rfl) rfl ?_
                    refine ynil' (kthn (hK32 _ _ ?_))
                    clear hK32
                    refine ccond rfl (fun h145 => ?_) (fun h145 => ?_)
                    · (try simp only [decide_eq_true_eq, beq_iff_eq, beq_eq_false_iff_ne, decide_eq_decide, decide_eq_false_iff_not, Bool.not_eq_true', Bool.not_eq_false', Bool.not_eq_true, Bool.not_eq_false, Bool.not_not, ne_eq, Option.isNone_some, Option.isSome_some, Option.isNone_none, Option.isSome_none] at h145)
                      refine cseq ?_; intro K33 hK33
                      refine creg ?_
                      refine y (ev_assign rfl) rfl ?_
                      refine ynil' (kthn (hK33 _ _ ?_))
                      clear hK33
                      refine cret (kthr (kthr (kbr (kthr (kthr (kbr (kthr ?_)))))))
                      first
                        | (exfalso; omega; done)
                        | (refine kretv Try.results6 rfl (L1 := R) (by repeat first | exact .refl | exact .nil | exact .z | apply Pk.s | refine Ge.e ?_ | apply Ge.pick | apply Ge.drop) ?_
                           exact ⟨_, ⟨by first | rfl | (exfalso; simp_all; done), rfl⟩, by first | rfl | (exfalso; simp_all; done)⟩)
                    · (try simp only [decide_eq_true_eq, beq_iff_eq, beq_eq_false_iff_ne, decide_eq_decide, decide_eq_false_iff_not, Bool.not_eq_true', Bool.not_eq_false', Bool.not_eq_true, Bool.not_eq_false, Bool.not_not, ne_eq, Option.isNone_some, Option.isSome_some, Option.isNone_none, Option.isSome_none] at h145)
                      refine cskip' (kthn (hK31 _ _ ?_))
                      clear hK31
                      refine creg ?_
                      obtain ⟨x, lt, hlx⟩ : ∃ x lt, l67 = x :: lt := List.exists_cons_of_length_pos (by omega)
                      have hlt1 : l101 = lt := by rw [hl101, hlx]; rfl
                      subst hlt1
                      rw [hlx] at hov hro ⊢
                      obtain ⟨ov', e1, e2, e3⟩ := ov_tail (m := l101.length) (x := str x.1) (xs := strsV (l101.map (·.1))) hov
                      refine y (ev_move rfl) rfl ?_
                      refine y (ev_slLV hro rfl rfl Try.underlying45 Try.sizeOf9 (by decide) (by simp only [List.length_cons]; omega)) rfl ?_
                      rw [show vSl (ovVal ov (x :: l101).length) (1 : Int).toNat (x :: l101).length 1 = ovVal ov' l101.length from e1, ← show ovSeg ov' 9 (strsV (l101.map (·.1))) = ovSeg ov 9 (strsV ((x :: l101).map (·.1))) from e3 _]
                      refine y (ev_assign rfl) rfl ?_
                      refine ynil' (kthn ?_)
                      exact ksub (by repeat first | exact sub_nil | refine sub_cons rfl ?_ | refine sub_cons' rfl (by simp) ?_) (by repeat first | exact .refl | exact .nil | exact .z | apply Pk.s | refine Ge.e ?_ | apply Ge.pick | apply Ge.drop) (hJr26 (⟨_, _, _, _, _⟩, _) (by first | exact hj | exact ⟨hG101, ok101, e2⟩))
                  · (try simp only [decide_eq_true_eq, beq_iff_eq, beq_eq_false_iff_ne, decide_eq_decide, decide_eq_false_iff_not, Bool.not_eq_true', Bool.not_eq_false', Bool.not_eq_true, Bool.not_eq_false, Bool.not_not, ne_eq, Option.isNone_some, Option.isSome_some, Option.isNone_none, Option.isSome_none] at h138)
                    have hj : LDev 0 n n (n + 1) D67 (n + 2) (2 * i + 3) h 1 le l67 ∧ itOk s67 (logD 0 n n (n + 1) D67 h 1 le l67) ∧ ovOk ov l67.length 1 (strsV (l67.map (·.1))) := ⟨hG67.up1, ok67, hov⟩
                    refine cskip' (kthn ?_)
                    exact ksub (by repeat first | exact sub_nil | refine sub_cons rfl ?_ | refine sub_cons' rfl (by simp) ?_) (by repeat first | exact .refl | exact .nil | exact .z | apply Pk.s | refine Ge.e ?_ | apply Ge.pick | apply Ge.drop) (hJr26 (⟨_, _, _, _, _⟩, _) (by first | exact hj | exact ⟨hG101, ok101, e2⟩))
                clear hK27
                refine cseq ?_; intro K34 hK34
                refine creg ?_
                first | rw [if_pos ⟨by omega, by omega⟩] at hl67 | (rw [if_neg (by omega)] at hl67; subst hl67)
                refine y (ev_move rfl) rfl ?_
                refine y (ev_eql rfl rfl) rfl ?_
                refine ynil' (kthn (hK34 _ _ ?_))
                clear hK34
                refine ccond1 rfl ?_
                refine creg ?_
                refine y (ev_move rfl) rfl ?_
                refine y (ev_move rfl) rfl ?_
                refine y (ev_move rfl) rfl ?_
                refine y (ev_ixV hl rfl rfl Try.underlying45 Try.sizeOf9 (by omega) (by omega)) rfl ?_
                refine y (ev_loadV i hl (by repeat first | exact .refl | exact .nil | exact .z | apply Pk.s | refine Ge.e ?_ | apply Ge.pick | apply Ge.drop) rfl Try.isAgg9 (by simp) (strsV_get htx)) rfl ?_
                refine ya (ac_bsliceR rfl Try.underlying45 Try.sizeOf9 Try.zeroValue9 rfl rfl rfl rfl ⟨⟨_, _, rfl, (by first | rfl | simp), (by first | decide | simp)⟩, trivial⟩ (by dsimp [fillL, splice, vcells, reps] <;> rfl)) rfl ?_
                rintro v L' ⟨b90, rfl, rfl⟩
                refine ya (ac_appendO (s := ov) (xs := strsV (l.map (·.1))) (m := l.length) (k := 1) (us := [str tx]) (size := 1) rfl rfl (by repeat first | exact .z | apply Pk.s) Try.underlying45 Try.underlying45 (by intro q hq; cases hq) Try.typeInfo9 rfl rfl rfl hov (src_at (by repeat first | exact .z | apply In.s) rfl rfl) (by intro u hu; simp at hu; subst hu; rfl) (by show (_ + _) * 17 ≤ _; omega)) rfl ?_
                rintro v L' ⟨s91, rfl, ok91, rfl⟩
                rw [show strsV (l.map (·.1)) ++ [str tx] = strsV (l67.map (·.1)) by rw [hl67]; simp [strsV], show l.length + 1 = l67.length by rw [hl67]; simp] at ok91 ⊢
                refine y (ev_assign rfl) rfl ?_
                refine ynil' (kthn ?_)
                exact ksub (by repeat first | exact sub_nil | refine sub_cons rfl ?_ | refine sub_cons' rfl (by simp) ?_) (by repeat first | exact .refl | exact .nil | exact .z | apply Pk.s | refine Ge.e ?_ | apply Ge.pick | apply Ge.drop) (hJr22 _ (by first | exact ok91 | exact hov))
              · skip
                refine y (ev_move rfl) rfl ?_
                first | rw [if_neg (show ¬ n = l.length by omega)] | rw [if_pos (show n = l.length by omega)]
                refine y (ev_eql rfl rfl) rfl ?_
                refine y (ev_move rfl) rfl ?_
                refine y (ev_lenV rfl Try.underlying45 hro.lenVal) rfl ?_
                refine y (ev_move rfl) rfl ?_
                refine y (ev_lss rfl rfl) rfl ?_
                refine y (ev_neqB rfl rfl Try.underlying4) rfl ?_
                first | rw [show (!((decide ((0 : Int) = 0)) == (decide ((l.length : Int) < n)))) = false by simp; omega] | rw [show (!((decide ((12 : Int) = 0)) == (decide ((l.length : Int) < n)))) = false by simp; omega]
                refine y (ev_move rfl) rfl ?_
                refine yg1 rfl rfl ?_
                refine y (ev_move rfl) rfl ?_
                refine yg1 rfl rfl ?_
                refine y (ev_neq rfl rfl) rfl ?_
                refine yg1 rfl rfl ?_
                refine y (ev_move rfl) rfl ?_
                refine yg1 rfl rfl ?_
                refine y (ev_move rfl) rfl ?_
                refine yg1 rfl rfl ?_
                refine y (ev_neq rfl rfl) rfl ?_
                refine yg1 rfl rfl ?_
                refine y (ev_pick1 rfl rfl) rfl ?_
                refine y (ev_pick0 rfl rfl) rfl ?_
                refine ynil' (kthn (hK26 _ _ ?_))
                clear hK26
                refine ccond0 rfl ?_
                refine cskip' (kthn (hK25 _ _ ?_))
                clear hK25
                refine cseq ?_; intro K35 hK35
                have hJr22 : ∀ x : Ov, (ovOk x l67.length 1 (strsV (l67.map (·.1)))) → Sk 155 K35 ([(12, i64 i), (11, ovVal x l67.length), (9, ptr p33), (8, dp q24), (7, i64 n), (1, lv), (2, .int .u8 cv)]) ([logG p33 c33 q24 s67 (logD 0 n n (n + 1) D67 h 1 le l67), dev q24 D67, ovSeg x 9 (strsV (l67.map (·.1)))] ++ R) := by
                  rintro ov hIr22
                  refine hK35 _ _ ?_
                  have hov := hIr22; have hll := hG67.ll; have hht := hG67.ht; have hro : RdV [ovSeg ov 9 (strsV (l67.map (·.1)))] (ovVal ov l67.length) l67.length (strsV (l67.map (·.1))) := rdV_ov .z hov
                  refine cseq ?_; intro K36 hK36
                  have hJr26 : ∀ x : LgM × Ov, (LDev 0 n n (n + 1) x.1.D (n + 2) (2 * i + 3) x.1.h 1 x.1.le x.1.l ∧ itOk x.1.sl (logD 0 n n (n + 1) x.1.D x.1.h 1 x.1.le x.1.l) ∧ ovOk x.2 x.1.l.length 1 (strsV (x.1.l.map (·.1)))) → Sk 155 K36 ([(12, i64 i), (11, ovVal x.2 x.1.l.length), (9, ptr p33), (8, dp q24), (7, i64 n), (1, lv), (2, .int .u8 cv)]) ([logG p33 c33 q24 x.1.sl (logD 0 n n (n + 1) x.1.D x.1.h 1 x.1.le x.1.l), dev q24 x.1.D, ovSeg x.2 9 (strsV (x.1.l.map (·.1)))] ++ R) := by
                    rintro ⟨⟨sl, D, h, le, l⟩, ov⟩ hIr26
                    refine hK36 _ _ ?_
                    obtain ⟨hG, ok, hov⟩ := hIr26; dsimp only at hG ok hov ⊢; have hll := hG.ll; have hro : RdV [ovSeg ov 9 (strsV (l.map (·.1)))] (ovVal ov l.length) l.length (strsV (l.map (·.1))) := rdV_ov .z hov
                    have hj := And.intro hG (And.intro ok hov)
                    refine cseq ?_; intro K37 hK37
                    refine creg ?_
                    refine y (ev_move rfl) rfl ?_
                    skip
                    · skip
                      refine ycall (bRecords ?ra176 ?rb176) rfl Try.call31 (by repeat first | exact .nil | exact .z | apply Pk.s | apply Tk.cons) rfl ?_
                      case ra176 => first | assumption | exact ok
                      case rb176 => (show l.length ≤ 512; omega)
                      rintro v L' ⟨s106, rfl, ok106, rfl⟩
                      refine y (ev_move rfl) rfl ?_
                      refine ycall (nSame (u1 := l.map (·.1)) (u2 := l.map (·.1)) ?ia178 ?ib178 ?ic178) rfl Try.call30 (by repeat first | exact .nil | exact .z | apply Pk.s | apply Tk.cons) rfl ?_
                      case ia178 => exact rdV_sv (by repeat first | exact .z | apply In.s) (by assumption)
                      case ib178 => (rw [List.length_map]; exact hro.mono (by repeat first | exact .refl | exact .nil | exact .z | apply Pk.s | refine Ge.e ?_ | apply Ge.pick | apply Ge.drop))
                      case ic178 => (simp; omega)
                      rintro v L' ⟨rfl, rfl⟩
                      rw [show (decide (l.map (·.1) = l.map (·.1))) = true by simp]
                      refine y (ev_not rfl) rfl ?_
                      refine y (ev_move rfl) rfl ?_
                      refine yg1 rfl rfl ?_
                      refine y (ev_move rfl) rfl ?_
                      refine yg1 rfl rfl ?_
                      refine ycall (bFree ?fa182 ?fb182 ?fc182) rfl Try.call32 (by repeat first | exact .nil | exact .z | apply Pk.s | apply Tk.cons) rfl ?_
                      case fa182 => exact ok
                      case fb182 => (show n ≤ 512; omega)
                      case fc182 => (show l.length ≤ 512; omega)
                      rintro v L' ⟨rfl, rfl⟩
                      refine yg1 rfl rfl ?_
                      refine y (ev_move rfl) rfl ?_
                      refine yg1 rfl rfl ?_
                      refine y (ev_move rfl) rfl ?_
                      refine yg1 rfl rfl ?_
                      refine y (ev_lenV rfl Try.underlying45 hro.lenVal) rfl ?_
                      refine yg1 rfl rfl ?_
                      refine y (ev_sub rfl rfl) rfl ?_
                      rw [wr (by omega) (by omega)]
                      refine yg1 rfl rfl ?_
                      refine y (ev_neq rfl rfl) rfl ?_
                      rw [show (!decide (((logD 0 n n (n + 1) D h 1 le l).n : Int) - (logD 0 n n (n + 1) D h 1 le l).l.length = (n : Int) - l.length)) = false by simp]
                      refine y (ev_pick0 rfl rfl) rfl ?_
                      refine ynil' (kthn (hK37 _ _ ?_))
                      clear hK37
                      refine ccond0 rfl ?_
                      refine cskip' (kbn (kthn ?_))
                      exact ksub (by repeat first | exact sub_nil | refine sub_cons rfl ?_ | refine sub_cons' rfl (by simp) ?_) (by repeat first | exact .refl | exact .nil | exact .z | apply Pk.s | refine Ge.e ?_ | apply Ge.pick | apply Ge.drop) (hJr13 (⟨_, _, _, _, _⟩, _) hj)
                  clear hK36
                  refine cseq ?_; intro K38 hK38
                  refine creg ?_
                  refine y (ev_move rfl) rfl ?_
                  refine y (ev_lenV rfl Try.underlying45 hro.lenVal) rfl ?_
                  refine y (ev_move rfl) rfl ?_
                  refine y (ev_conv rfl Try.underlying5 Try.underlying3) rfl ?_
                  rw [wr (by omega) (by omega)]
                  refine y (ev_gtr rfl rfl) rfl ?_
                  refine ynil' (kthn (hK38 _ _ ?_))
                  clear hK38
                  refine ccond rfl (fun h194 => ?_) (fun h194 => ?_)
                  · (try simp only [decide_eq_true_eq, beq_iff_eq, beq_eq_false_iff_ne, decide_eq_decide, decide_eq_false_iff_not, Bool.not_eq_true', Bool.not_eq_false', Bool.not_eq_true, Bool.not_eq_false, Bool.not_not, ne_eq, Option.isNone_some, Option.isSome_some, Option.isNone_none, Option.isSome_none] at h194)
                    refine cseq ?_; intro K39 hK39
                    refine cseq ?_; intro K40 hK40
                    refine creg ?_
                    refine y (ev_move rfl) rfl ?_
                    refine y (ev_move rfl) rfl ?_
                    refine ycall (bHead) rfl Try.call29 (by repeat first | exact .nil | exact .z | apply Pk.s | apply Tk.cons) rfl ?_
                    rintro v L' ⟨rfl, rfl⟩
                    refine y (ev_add rfl rfl) rfl ?_
                    rw [show (logD 0 n n (n + 1) D67 h 1 le l67).head = h from rfl, wr (by omega) (by omega)]
                    refine ycall (gTrim (m := h + 1) (N := n + 2) (k := 2 * i + 2) ?ag199 ?ak199 ?as199) rfl Try.call28 (by repeat first | exact .nil | exact .z | apply Pk.s | apply Tk.cons) rfl ?_
                    case ag199 => exact hG67
                    case ak199 => omega
                    case as199 => exact ok67
                    rintro v L' ⟨s101, D101, h101, e101, l101, rfl, hG101, hh101, hl101, hf101, ok101, rfl⟩
                    rw [if_pos ⟨by omega, by omega⟩] at hh101 hl101 ⊢
                    rw [show (h + 1 - h).toNat = 1 by omega] at hl101
                    refine y (ev_neq rfl rfl) rfl ?_
                    refine ynil' (kthn (hK40 _ _ ?_))
                    clear hK40
                    refine ccond rfl (fun h201 => ?_) (fun h201 => ?_)
                    · (try simp only [decide_eq_true_eq, beq_iff_eq, beq_eq_false_iff_ne, decide_eq_decide, decide_eq_false_iff_not, Bool.not_eq_true', Bool.not_eq_false', Bool.not_eq_true, Bool.not_eq_false, Bool.not_not, ne_eq, Option.isNone_some, Option.isSome_some, Option.isNone_none, Option.isSome_none] at h201)
                      refine cseq ?_; intro K41 hK41
                      refine creg ?_
                      refine y (ev_assign rfl) rfl ?_
                      refine ynil' (kthn (hK41 _ _ ?_))
                      clear hK41
                      refine cret (kthr (kthr (kbr (kthr (kthr (kbr (kthr ?_)))))))
                      first
                        | (exfalso; omega; done)
                        | (refine kretv Try.results6 rfl (L1 := R) (by repeat first | exact .refl | exact .nil | exact .z | apply Pk.s | refine Ge.e ?_ | apply Ge.pick | apply Ge.drop) ?_
                           exact ⟨_, ⟨by first | rfl | (exfalso; simp_all; done), rfl⟩, by first | rfl | (exfalso; simp_all; done)⟩)
                    · (try simp only [decide_eq_true_eq, beq_iff_eq, beq_eq_false_iff_ne, decide_eq_decide, decide_eq_false_iff_not, Bool.not_eq_true', Bool.not_eq_false', Bool.not_eq_true, Bool.not_eq_false, Bool.not_not, ne_eq, Option.isNone_some, Option.isSome_some, Option.isNone_none, Option.isSome_none] at h201)
                      refine cskip' (kthn (hK39 _ _ ?_))
                      clear hK39
                      refine creg ?_
                      obtain ⟨x, lt, hlx⟩ : ∃ x lt, l67 = x :: lt := List.exists_cons_of_length_pos (by omega)
                      have hlt1 : l101 = lt := by rw [hl101, hlx]; rfl
                      subst hlt1
                      rw [hlx] at hov hro ⊢
                      obtain ⟨ov', e1, e2, e3⟩ := ov_tail (m := l101.length) (x := str x.1) (xs := strsV (l101.map (·.1))) hov
                      refine y (ev_move rfl) rfl ?_
                      refine y (ev_slLV hro rfl rfl Try.underlying45 Try.sizeOf9 (by decide) (by simp only [List.length_cons]; omega)) rfl ?_
                      rw [show vSl (ovVal ov (x :: l101).length) (1 : Int).toNat (x :: l101).length 1 = ovVal ov' l101.length from e1, ← show ovSeg ov' 9 (strsV (l101.map (·.1))) = ovSeg ov 9 (strsV ((x :: l101).map (·.1))) from e3 _]
                      refine y (ev_assign rfl) rfl ?_
                      refine ynil' (kthn ?_)
                      exact ksub (by repeat first | exact sub_nil | refine sub_cons rfl ?_ | refine sub_cons' rfl (by simp) ?_) (by repeat first | exact .refl | exact .nil | exact .z | apply Pk.s | refine Ge.e ?_ | apply Ge.pick | apply Ge.drop) (hJr26 (⟨_, _, _, _, _⟩, _) (by first | exact hj | exact ⟨hG101, ok101, e2⟩))
                  · (try simp only [decide_eq_true_eq, beq_iff_eq, beq_eq_false_iff_ne, decide_eq_decide, decide_eq_false_iff_not, Bool.not_eq_true', Bool.not_eq_false', Bool.not_eq_true, Bool.not_eq_false, Bool.not_not, ne_eq, Option.isNone_some, Option.isSome_some, Option.isNone_none, Option.isSome_none] at h194)
                    have hj : LDev 0 n n (n + 1) D67 (n + 2) (2 * i + 3) h 1 le l67 ∧ itOk s67 (logD 0 n n (n + 1) D67 h 1 le l67) ∧ ovOk ov l67.length 1 (strsV (l67.map (·.1))) := ⟨hG67.up1, ok67, hov⟩
                    refine cskip' (kthn ?_)
                    exact ksub (by repeat first | exact sub_nil | refine sub_cons rfl ?_ | refine sub_cons' rfl (by simp) ?_) (by repeat first | exact .refl | exact .nil | exact .z | apply Pk.s | refine Ge.e ?_ | apply Ge.pick | apply Ge.drop) (hJr26 (⟨_, _, _, _, _⟩, _) (by first | exact hj | exact ⟨hG101, ok101, e2⟩))
                clear hK35
                refine cseq ?_; intro K42 hK42
                refine creg ?_
                first | rw [if_pos ⟨by omega, by omega⟩] at hl67 | (rw [if_neg (by omega)] at hl67; subst hl67)
                refine y (ev_move rfl) rfl ?_
                refine y (ev_eql rfl rfl) rfl ?_
                refine ynil' (kthn (hK42 _ _ ?_))
                clear hK42
                refine ccond0 rfl ?_
                refine cskip' (kthn ?_)
                exact ksub (by repeat first | exact sub_nil | refine sub_cons rfl ?_ | refine sub_cons' rfl (by simp) ?_) (by repeat first | exact .refl | exact .nil | exact .z | apply Pk.s | refine Ge.e ?_ | apply Ge.pick | apply Ge.drop) (hJr22 _ (by first | exact ok91 | exact hov))
          · (try simp only [decide_eq_true_eq, beq_iff_eq, beq_eq_false_iff_ne, decide_eq_decide, decide_eq_false_iff_not, Bool.not_eq_true', Bool.not_eq_false', Bool.not_eq_true, Bool.not_eq_false, Bool.not_not, ne_eq, Option.isNone_some, Option.isSome_some, Option.isNone_none, Option.isSome_none] at h79)
            refine cexit (kthx (kthx (kbx (kthn ?_))))
            exact ksub (by repeat first | exact sub_nil | refine sub_cons rfl ?_ | refine sub_cons' rfl (by simp) ?_) (by repeat first | exact .refl | exact .nil | exact .z | apply Pk.s | refine Ge.e ?_ | apply Ge.pick | apply Ge.drop) (hJ1 ⟨i, ⟨sl, D, h, le, l⟩, ov⟩ ⟨hI1o, by first | trivial | omega⟩)
        · (try simp only [decide_eq_true_eq, beq_iff_eq, beq_eq_false_iff_ne, decide_eq_decide, decide_eq_false_iff_not, Bool.not_eq_true', Bool.not_eq_false', Bool.not_eq_true, Bool.not_eq_false, Bool.not_not, ne_eq, Option.isNone_some, Option.isSome_some, Option.isNone_none, Option.isSome_none] at h75)
          refine yg0 rfl rfl rfl rfl ?_
          refine yg0 rfl rfl rfl rfl ?_
          refine y (ev_pick0 rfl rfl) rfl ?_
          refine ynil' (kthn (hK17 _ _ ?_))
          clear hK17
          refine ccond0 rfl ?_
          refine cexit (kthx (kthx (kbx (kthn ?_))))
          exact ksub (by repeat first | exact sub_nil | refine sub_cons rfl ?_ | refine sub_cons' rfl (by simp) ?_) (by repeat first | exact .refl | exact .nil | exact .z | apply Pk.s | refine Ge.e ?_ | apply Ge.pick | apply Ge.drop) (hJ1 ⟨i, ⟨sl, D, h, le, l⟩, ov⟩ ⟨hI1o, by first | trivial | omega⟩)
end W
end Go.Proofs
