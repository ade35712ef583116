/- A part of the proof: contracts and plain lemmas, each without conditions beyond those that it names. -/
import Derived.Test.YtnfbhgalkcmbdaaR4
set_option linter.unusedVariables false
set_option linter.unusedSimpArgs false
set_option linter.constructorNameAsVariable false
namespace Go.Proofs
open Go Go.Sl
namespace W
set_option linter.unusedVariables false
theorem lawDAnew [Env] {R : List Seg} {bv cv : Int} {lv : Value} {bs : Bytes} (hb : 0 ≤ bv ∧ bv ≤ 255) (hc : 0 ≤ cv ∧ cv ≤ 255) (hl : RdV R lv bs.length (bytesV bs)) :
    Con Try.prog 3 [.int .u8 bv, lv, .int .u8 cv] [] R (Is (.bool true) []) := by
  have hvl := hl.lenVal
  refine con_enter Try.func3 Try.ntmps3 rfl rfl ?_
  refine cseq ?_; intro K1 hK1
  refine creg ?_
  refine y (ev_assign rfl) rfl ?_
  refine ynil' (kthn (hK1 _ _ ?_))
  clear hK1
  refine cseq ?_; intro K2 hK2
  refine cseq ?_; intro K3 hK3
  refine creg ?_
  refine ycall (awake8) rfl Try.call11 (by repeat first | exact .nil | exact .z | apply Pk.s | apply Tk.cons) rfl ?_
  rintro v L' ⟨rfl, rfl⟩
  skip
  · skip
    refine y (ev_not rfl) rfl ?_
    refine ynil' (kthn (hK3 _ _ ?_))
    clear hK3
    refine ccond0 rfl ?_
    refine cskip' (kthn (hK2 _ _ ?_))
    clear hK2
    refine cseq ?_; intro K4 hK4
    refine creg ?_
    refine y (ev_move rfl) rfl ?_
    refine y (ev_rem rfl rfl (by decide)) rfl ?_
    refine y (ev_conv rfl Try.underlying5 Try.underlying3) rfl ?_
    refine y (ev_add rfl rfl) rfl ?_
    rw [nBk_eq hb.1 hb.2]; obtain ⟨n1, n32⟩ := nBk_le bv; obtain ⟨n, hn0⟩ : ∃ n, nBk bv = n := ⟨_, rfl⟩; rw [hn0] at n1 n32 ⊢
    obtain ⟨hG0, hb0⟩ := new_dgood (N := 4) (n := n) (a := 0) (b := 1) (by decide) ⟨n1, n32⟩ (by decide) (by decide) (by decide)
    obtain ⟨hM0, hm0⟩ := new_dgood (N := 4) (n := n) (a := 2) (b := 3) (by decide) ⟨n1, n32⟩ (by decide) (by decide) (by decide)
    refine y (ev_assign rfl) rfl ?_
    refine ynil' (kthn (hK4 _ _ ?_))
    clear hK4
    refine cseq ?_; intro K5 hK5
    refine creg ?_
    refine ycall (secNew (n := 4) (by omega)) rfl Try.call12 (by repeat first | exact .nil | exact .z | apply Pk.s | apply Tk.cons) rfl ?_
    rintro v L' ⟨q22, rfl, rfl⟩
    refine y (ev_assign rfl) rfl ?_
    refine ynil' (kthn (hK5 _ _ ?_))
    clear hK5
    refine cseq ?_; intro K6 hK6
    refine cseq ?_; intro K7 hK7
    refine creg ?_
    refine y (ev_move rfl) rfl ?_
    skip
    · skip
      refine y (ev_eqlPnil rfl rfl Try.underlying24) rfl ?_
      refine ynil' (kthn (hK7 _ _ ?_))
      clear hK7
      refine ccond0 rfl ?_
      refine cskip' (kthn (hK6 _ _ ?_))
      clear hK6
      refine cseq ?_; intro K8 hK8
      refine creg ?_
      refine y (ev_move rfl) rfl ?_
      refine y (ev_move rfl) rfl ?_
      refine ycall (gDOpen hG0 rfl) rfl Try.call13 (by repeat first | exact .nil | exact .z | apply Pk.s | apply Tk.cons) rfl ?_
      rintro v L' ⟨l28, c28, rfl, rfl⟩
      refine y (ev_move rfl) rfl ?_
      refine y (ev_extract rfl rfl) rfl ?_
      refine y (ev_extract rfl rfl) rfl ?_
      refine y (ev_assign rfl) rfl ?_
      refine y (ev_assign rfl) rfl ?_
      refine ynil' (kthn (hK8 _ _ ?_))
      clear hK8
      refine cseq ?_; intro K9 hK9
      refine creg ?_
      refine y (ev_move rfl) rfl ?_
      refine y (ev_move rfl) rfl ?_
      refine ycall (gDOpen hM0 rfl) rfl Try.call13 (by repeat first | exact .nil | exact .z | apply Pk.s | apply Tk.cons) rfl ?_
      rintro v L' ⟨l34, c34, rfl, rfl⟩
      have hM1 := hM0.ok.n
      have hM2 := hM0.ok.bits
      generalize drlO (Dev.new 4) 2 3 n = M0 at *
      generalize openC (Dev.new 4) 2 3 = CM at *
      refine y (ev_move rfl) rfl ?_
      refine y (ev_extract rfl rfl) rfl ?_
      refine y (ev_extract rfl rfl) rfl ?_
      refine y (ev_assign rfl) rfl ?_
      refine y (ev_assign rfl) rfl ?_
      refine ynil' (kthn (hK9 _ _ ?_))
      clear hK9
      refine cseq ?_; intro K10 hK10
      refine cseq ?_; intro K11 hK11
      refine creg ?_
      refine y (ev_move rfl) rfl ?_
      skip
      · skip
        refine y (ev_eqlPnil rfl rfl Try.underlying26) rfl ?_
        refine y (ev_move rfl) rfl ?_
        refine yg1 rfl rfl ?_
        refine y (ev_move rfl) rfl ?_
        refine yg1 rfl rfl ?_
        refine y (ev_eqlPnil rfl rfl Try.underlying26) rfl ?_
        refine y (ev_pick0 rfl rfl) rfl ?_
        refine ynil' (kthn (hK11 _ _ ?_))
        clear hK11
        refine ccond0 rfl ?_
        refine cskip' (kthn (hK10 _ _ ?_))
        clear hK10
        refine cseq ?_; intro K12 hK12
        refine cseq ?_; intro K13 hK13
        refine creg ?_
        refine y (ev_assign rfl) rfl ?_
        refine ynil' (kthn (hK13 _ _ ?_))
        clear hK13
        have hJ1 : ∀ x : Nat × Dev, ((DGood 0 1 n x.2 4 (2 * x.1) ∧ x.1 ≤ bs.length ∧ x.1 ≤ 60) ∧ (True)) → Sk 109 K12 ([(13, i64 x.1), (9, ptr l28), (8, dp q22), (7, i64 n), (11, ptr l34), (1, lv), (2, .int .u8 cv)]) ([drlP l28 c28 (drlO x.2 0 1 n), celP c28 q22 (openC x.2 0 1), drlP l34 c34 M0, dev q22 x.2] ++ R) := by
          rintro ⟨i, D⟩ ⟨hI1, hX1⟩
          refine hK12 _ _ ?_
          obtain ⟨hG, hi1, hi2⟩ := hI1; dsimp only at hG hi1 hi2 ⊢
          skip
          refine cseq ?_; intro K14 hK14
          refine creg ?_
          refine y (ev_move rfl) rfl ?_
          refine ycall (dBlocks ?dn37 ?db37) rfl Try.call16 (by repeat first | exact .nil | exact .z | apply Pk.s | apply Tk.cons) rfl ?_
          case dn37 => exact hM1
          case db37 => exact hM2
          rintro v L' ⟨s106, rfl, ok106, rfl⟩
          rw [zero_blks hm0] at ok106 ⊢
          first
            | refine y (ev_len rfl Try.underlying32) rfl ?_
            | refine y (ev_lenSv rfl Try.underlying32 (by assumption)) rfl ?_
            | refine y (ev_lenV rfl Try.underlying32 (RdV.lenVal (by assumption))) rfl ?_
            | refine y (ev_lenV rfl Try.underlying32 (RdB.lenVal (by assumption))) rfl ?_
          refine y (ev_eql rfl rfl) rfl ?_
          refine y (ev_assign rfl) rfl ?_
          refine ynil' (kthn (hK14 _ _ ?_))
          clear hK14
          refine cret ?_
          first
            | (exfalso; omega; done)
            | (refine kretv Try.results3 rfl (L1 := R) (by repeat first | exact .refl | exact .nil | exact .z | apply Pk.s | refine Ge.e ?_ | apply Ge.pick | apply Ge.drop) ?_
               exact ⟨_, ⟨by first | rfl | (exfalso; simp_all; done), rfl⟩, by first | rfl | (exfalso; simp_all; done)⟩)
        clear hK12
        refine cblock ?_
        refine cloop (A := Nat × Dev) (fun x => [(13, i64 x.1), (9, ptr l28), (8, dp q22), (7, i64 n), (11, ptr l34), (1, lv), (2, .int .u8 cv)]) (fun x => [drlP l28 c28 (drlO x.2 0 1 n), celP c28 q22 (openC x.2 0 1), drlP l34 c34 M0, dev q22 x.2] ++ R) (fun x => DGood 0 1 n x.2 4 (2 * x.1) ∧ x.1 ≤ bs.length ∧ x.1 ≤ 60) (fun x => 60 - x.1) ((0, Dev.new 4)) ?_ (by repeat first | exact sub_nil | refine sub_cons rfl ?_ | refine sub_cons' rfl (by simp) ?_) (by repeat first | exact .refl | exact .nil | exact .z | apply Pk.s | refine Ge.e ?_ | apply Ge.pick | apply Ge.drop) ?_
        · exact ⟨hG0, Nat.zero_le _, Nat.zero_le _⟩
        rintro ⟨i, D⟩ hI1 KL1 hL1
        have hI1o := hI1
        obtain ⟨hG, hi1, hi2⟩ := hI1; dsimp only at hG hi1 hi2 ⊢
        refine cseq ?_; intro K15 hK15
        refine cseq ?_; intro K16 hK16
        refine creg ?_
        refine y (ev_move rfl) rfl ?_
        refine y (ev_move rfl) rfl ?_
        first
          | refine y (ev_len rfl Try.underlying22) rfl ?_
          | refine y (ev_lenSv rfl Try.underlying22 (by assumption)) rfl ?_
          | refine y (ev_lenV rfl Try.underlying22 (RdV.lenVal (by assumption))) rfl ?_
          | refine y (ev_lenV rfl Try.underlying22 (RdB.lenVal (by assumption))) rfl ?_
        refine y (ev_lss rfl rfl) rfl ?_
        refine y (ev_move rfl) rfl ?_
        refine ysplit 47 rfl (fun h46 => ?_) (fun h46 => ?_)
        · (try simp only [decide_eq_true_eq, beq_iff_eq, beq_eq_false_iff_ne, decide_eq_decide, decide_eq_false_iff_not, Bool.not_eq_true', Bool.not_eq_false', Bool.not_eq_true, Bool.not_eq_false, Bool.not_not, ne_eq, Option.isNone_some, Option.isSome_some, Option.isNone_none, Option.isSome_none] at h46)
          refine yg1 rfl rfl ?_
          refine y (ev_move rfl) rfl ?_
          refine yg1 rfl rfl ?_
          refine y (ev_lss rfl rfl) rfl ?_
          refine y (ev_pick1 rfl rfl) rfl ?_
          refine ynil' (kthn (hK16 _ _ ?_))
          clear hK16
          refine ccond rfl (fun h50 => ?_) (fun h50 => ?_)
          · (try simp only [decide_eq_true_eq, beq_iff_eq, beq_eq_false_iff_ne, decide_eq_decide, decide_eq_false_iff_not, Bool.not_eq_true', Bool.not_eq_false', Bool.not_eq_true, Bool.not_eq_false, Bool.not_not, ne_eq, Option.isNone_some, Option.isSome_some, Option.isNone_none, Option.isSome_none] at h50)
            refine cskip' (kthn (hK15 _ _ ?_))
            clear hK15
            refine cseq ?_; intro K17 hK17
            refine cblock ?_
            refine cseq ?_; intro K18 hK18
            refine cseq ?_; intro K19 hK19
            refine creg ?_
            refine y (ev_move rfl) rfl ?_
            refine y (ev_move rfl) rfl ?_
            refine y (ev_move rfl) rfl ?_
            refine y (ev_ixV hl rfl rfl Try.underlying22 Try.sizeOf5 (by omega) (by omega)) rfl ?_
            refine y (ev_loadV i hl (by repeat first | exact .refl | exact .nil | exact .z | apply Pk.s | refine Ge.e ?_ | apply Ge.pick | apply Ge.drop) rfl Try.isAgg5 (by simp) (bytesV_get (by omega))) rfl ?_
            obtain ⟨x, hx⟩ : ∃ x, bs[i]?.getD 0 = x := ⟨_, rfl⟩; rw [hx]; have hx8 := x.toNat_lt; obtain ⟨z, hz, hzn⟩ := tmodN (x := x.toNat) (n := n) (by omega); have hin : inR n (z : Int) = true := inR_iff.2 ⟨by omega, by omega⟩
            refine y (ev_conv rfl Try.underlying5 Try.underlying3) rfl ?_
            rw [wr (by omega) (by omega)]
            refine y (ev_move rfl) rfl ?_
            refine y (ev_rem rfl rfl (by omega)) rfl ?_
            rw [hz]
            refine ycall (gDMark (n := n) (N := 4) (k := 2 * i) ?dg59 ?dk59 ?di59 ?dj59) rfl Try.call14 (by repeat first | exact .nil | exact .z | apply Pk.s | apply Tk.cons) rfl ?_
            case dg59 => exact hG
            case dk59 => omega
            case di59 => omega
            case dj59 => omega
            rintro v L' ⟨D61, rfl, hG61, hb61, hs61, rfl⟩
            rw [if_pos hin]
            skip
            · skip
              refine y (ev_neq rfl rfl) rfl ?_
              refine ynil' (kthn (hK19 _ _ ?_))
              clear hK19
              refine ccond0 rfl ?_
              refine cskip' (kthn (hK18 _ _ ?_))
              clear hK18
              refine cseq ?_; intro K20 hK20
              have hJr19 : ∀ x : Dev, (DGood 0 1 n x 4 (2 * i + 2)) → Sk 109 K20 ([(13, i64 i), (9, ptr l28), (8, dp q22), (7, i64 n), (11, ptr l34), (1, lv), (2, .int .u8 cv)]) ([drlP l28 c28 (drlO x 0 1 n), celP c28 q22 (openC x 0 1), drlP l34 c34 M0, dev q22 x] ++ R) := by
                rintro D1 hIr19
                refine hK20 _ _ ?_
                have hG1 := hIr19; have hi3 : i < 60 ∧ i < bs.length := by omega
                refine cseq ?_; intro K21 hK21
                refine creg ?_
                refine y (ev_move rfl) rfl ?_
                refine y (ev_move rfl) rfl ?_
                refine ycall (gDOpen hG1 rfl) rfl Try.call13 (by repeat first | exact .nil | exact .z | apply Pk.s | apply Tk.cons) rfl ?_
                rintro v L' ⟨l79, c79, rfl, rfl⟩
                refine y (ev_move rfl) rfl ?_
                refine y (ev_extract rfl rfl) rfl ?_
                refine y (ev_extract rfl rfl) rfl ?_
                refine y (ev_assign rfl) rfl ?_
                refine y (ev_assign rfl) rfl ?_
                refine ynil' (kthn (hK21 _ _ ?_))
                clear hK21
                refine cseq ?_; intro K22 hK22
                refine creg ?_
                refine y (ev_move rfl) rfl ?_
                skip
                · skip
                  refine y (ev_eqlPnil rfl rfl Try.underlying26) rfl ?_
                  refine y (ev_move rfl) rfl ?_
                  refine yg1 rfl rfl ?_
                  refine y (ev_move rfl) rfl ?_
                  refine yg1 rfl rfl ?_
                  refine y (ev_neq rfl rfl) rfl ?_
                  refine y (ev_pick0 rfl rfl) rfl ?_
                  refine y (ev_move rfl) rfl ?_
                  refine yg1 rfl rfl ?_
                  refine y (ev_move rfl) rfl ?_
                  refine yg1 rfl rfl ?_
                  refine ycall (dBlocks ?dn77 ?db77) rfl Try.call16 (by repeat first | exact .nil | exact .z | apply Pk.s | apply Tk.cons) rfl ?_
                  case dn77 => exact hG1.n
                  case db77 => exact hG1.ok.bits
                  rintro v L' ⟨s90, rfl, ok90, rfl⟩
                  refine yg1 rfl rfl ?_
                  refine y (ev_move rfl) rfl ?_
                  refine yg1 rfl rfl ?_
                  refine ycall (dBlocks ?dn79 ?db79) rfl Try.call16 (by repeat first | exact .nil | exact .z | apply Pk.s | apply Tk.cons) rfl ?_
                  case dn79 => exact hG1.n
                  case db79 => exact hG1.ok.bits
                  rintro v L' ⟨s92, rfl, ok92, rfl⟩
                  refine yg1 rfl rfl ?_
                  refine ycall (nInts (u1 := (drlO D1 0 1 n).blks) (u2 := (drlO D1 0 1 n).blks) ?ia80 ?ib80 ?ic80 ?id80) rfl Try.call17 (by repeat first | exact .nil | exact .z | apply Pk.s | apply Tk.cons) rfl ?_
                  case ia80 => exact rdV_sv (by repeat first | exact .z | apply In.s) ok90
                  case ib80 => exact rdV_sv (by repeat first | exact .z | apply In.s) ok92
                  case ic80 => have := blksTo_le (drlO D1 0 1 n) n; exact Nat.le_trans this (by omega)
                  case id80 => have := blksTo_le (drlO D1 0 1 n) n; exact Nat.le_trans this (by omega)
                  rintro v L' ⟨rfl, rfl⟩
                  rw [show (decide ((drlO D1 0 1 n).blks = (drlO D1 0 1 n).blks)) = true by simp]
                  refine yg1 rfl rfl ?_
                  refine y (ev_not rfl) rfl ?_
                  refine y (ev_pick0 rfl rfl) rfl ?_
                  refine y (ev_move rfl) rfl ?_
                  refine yg1 rfl rfl ?_
                  refine y (ev_move rfl) rfl ?_
                  refine yg1 rfl rfl ?_
                  refine ycall (dRow) rfl Try.call18 (by repeat first | exact .nil | exact .z | apply Pk.s | apply Tk.cons) rfl ?_
                  rintro v L' ⟨rfl, rfl⟩
                  refine yg1 rfl rfl ?_
                  refine ycall (xText ?xn86 ?xb86) rfl Try.call19 (by repeat first | exact .nil | exact .z | apply Pk.s | apply Tk.cons) rfl ?_
                  case xn86 => have := regs_le hG1.n; show regs n ≤ 64; omega
                  case xb86 => exact hG1.ok.bits
                  rintro v L' ⟨rfl, rfl⟩
                  refine yg1 rfl rfl ?_
                  refine y (ev_move rfl) rfl ?_
                  refine yg1 rfl rfl ?_
                  refine ycall (dRow) rfl Try.call18 (by repeat first | exact .nil | exact .z | apply Pk.s | apply Tk.cons) rfl ?_
                  rintro v L' ⟨rfl, rfl⟩
                  refine yg1 rfl rfl ?_
                  refine ycall (xText ?xn89 ?xb89) rfl Try.call19 (by repeat first | exact .nil | exact .z | apply Pk.s | apply Tk.cons) rfl ?_
                  case xn89 => have := regs_le hG1.n; show regs n ≤ 64; omega
                  case xb89 => exact hG1.ok.bits
                  rintro v L' ⟨rfl, rfl⟩
                  refine yg1 rfl rfl ?_
                  first
                    | refine y (ev_neqL rfl rfl) rfl ?_
                    | refine y (ev_neqS rfl rfl) rfl ?_
                  rw [show (decide (textR (regs (drlO D1 0 1 n).n) (drlO D1 0 1 n).bits ≠ textR (regs (drlO D1 0 1 n).n) (drlO D1 0 1 n).bits)) = false by simp]
                  refine y (ev_pick0 rfl rfl) rfl ?_
                  refine ynil' (kthn (hK22 _ _ ?_))
                  clear hK22
                  refine ccond0 rfl ?_
                  refine cskip' (kbn (kthn (hK17 _ _ ?_)))
                  clear hK17
                  refine creg ?_
                  refine y (ev_move rfl) rfl ?_
                  refine y (ev_add rfl rfl) rfl ?_
                  rw [show IntKind.i64.wrap ((i:Int) + 1) = ((i+1 : Nat) : Int) by rw [wr (by omega) (by omega)]; rfl]
                  refine y (ev_assign rfl) rfl ?_
                  refine ynil' (kthn ?_)
                  exact hL1 ((i + 1, D1)) (⟨by rw [show 2 * (i + 1) = 2 * i + 2 by omega]; exact hG1, by dsimp only; omega, by dsimp only; omega⟩) (by dsimp only; omega) _ _ (by repeat first | exact sub_nil | refine sub_cons rfl ?_ | refine sub_cons' rfl (by simp) ?_) (by repeat first | exact .refl | exact .nil | exact .z | apply Pk.s | refine Ge.e ?_ | apply Ge.pick | apply Ge.drop)
              clear hK20
              refine cseq ?_; intro K23 hK23
              refine creg ?_
              refine y (ev_move rfl) rfl ?_
              refine y (ev_move rfl) rfl ?_
              refine y (ev_conv rfl Try.underlying5 Try.underlying3) rfl ?_
              rw [wr (by omega) (by omega)]
              refine y (ev_eql rfl rfl) rfl ?_
              refine ynil' (kthn (hK23 _ _ ?_))
              clear hK23
              refine ccond rfl (fun h99 => ?_) (fun h99 => ?_)
              · (try simp only [decide_eq_true_eq, beq_iff_eq, beq_eq_false_iff_ne, decide_eq_decide, decide_eq_false_iff_not, Bool.not_eq_true', Bool.not_eq_false', Bool.not_eq_true, Bool.not_eq_false, Bool.not_not, ne_eq, Option.isNone_some, Option.isSome_some, Option.isNone_none, Option.isSome_none] at h99)
                refine cseq ?_; intro K24 hK24
                refine creg ?_
                refine y (ev_move rfl) rfl ?_
                refine ycall (gDClear (n := n) (N := 4) (k := 2 * i + 1) ?dg101 ?dk101) rfl Try.call15 (by repeat first | exact .nil | exact .z | apply Pk.s | apply Tk.cons) rfl ?_
                case dg101 => exact hG61
                case dk101 => omega
                rintro v L' ⟨D68, rfl, hG68, hb68, hs68, rfl⟩
                skip
                · skip
                  refine y (ev_neq rfl rfl) rfl ?_
                  refine y (ev_move rfl) rfl ?_
                  refine yg1 rfl rfl ?_
                  refine y (ev_move rfl) rfl ?_
                  refine yg1 rfl rfl ?_
                  refine ycall (dBlocks ?dn105 ?db105) rfl Try.call16 (by repeat first | exact .nil | exact .z | apply Pk.s | apply Tk.cons) rfl ?_
                  case dn105 => exact hG68.n
                  case db105 => exact hG68.ok.bits
                  rintro v L' ⟨s72, rfl, ok72, rfl⟩
                  rw [zero_blks hb68] at ok72 ⊢
                  refine yg1 rfl rfl ?_
                  first
                    | refine y (ev_len rfl Try.underlying32) rfl ?_
                    | refine y (ev_lenSv rfl Try.underlying32 (by assumption)) rfl ?_
                    | refine y (ev_lenV rfl Try.underlying32 (RdV.lenVal (by assumption))) rfl ?_
                    | refine y (ev_lenV rfl Try.underlying32 (RdB.lenVal (by assumption))) rfl ?_
                  refine yg1 rfl rfl ?_
                  refine y (ev_neq rfl rfl) rfl ?_
                  refine y (ev_pick0 rfl rfl) rfl ?_
                  refine ynil' (kthn (hK24 _ _ ?_))
                  clear hK24
                  refine ccond0 rfl ?_
                  refine cskip' (kthn ?_)
                  exact ksub (by repeat first | exact sub_nil | refine sub_cons rfl ?_ | refine sub_cons' rfl (by simp) ?_) (by repeat first | exact .refl | exact .nil | exact .z | apply Pk.s | refine Ge.e ?_ | apply Ge.pick | apply Ge.drop) (hJr19 _ (by first | exact hG68 | exact hG61.up1))
              · (try simp only [decide_eq_true_eq, beq_iff_eq, beq_eq_false_iff_ne, decide_eq_decide, decide_eq_false_iff_not, Bool.not_eq_true', Bool.not_eq_false', Bool.not_eq_true, Bool.not_eq_false, Bool.not_not, ne_eq, Option.isNone_some, Option.isSome_some, Option.isNone_none, Option.isSome_none] at h99)
                refine cskip' (kthn ?_)
                exact ksub (by repeat first | exact sub_nil | refine sub_cons rfl ?_ | refine sub_cons' rfl (by simp) ?_) (by repeat first | exact .refl | exact .nil | exact .z | apply Pk.s | refine Ge.e ?_ | apply Ge.pick | apply Ge.drop) (hJr19 _ (by first | exact hG68 | exact hG61.up1))
          · (try simp only [decide_eq_true_eq, beq_iff_eq, beq_eq_false_iff_ne, decide_eq_decide, decide_eq_false_iff_not, Bool.not_eq_true', Bool.not_eq_false', Bool.not_eq_true, Bool.not_eq_false, Bool.not_not, ne_eq, Option.isNone_some, Option.isSome_some, Option.isNone_none, Option.isSome_none] at h50)
            refine cexit (kthx (kthx (kbx (kthn ?_))))
            exact ksub (by repeat first | exact sub_nil | refine sub_cons rfl ?_ | refine sub_cons' rfl (by simp) ?_) (by repeat first | exact .refl | exact .nil | exact .z | apply Pk.s | refine Ge.e ?_ | apply Ge.pick | apply Ge.drop) (hJ1 ⟨i, D⟩ ⟨hI1o, by first | trivial | omega⟩)
        · (try simp only [decide_eq_true_eq, beq_iff_eq, beq_eq_false_iff_ne, decide_eq_decide, decide_eq_false_iff_not, Bool.not_eq_true', Bool.not_eq_false', Bool.not_eq_true, Bool.not_eq_false, Bool.not_not, ne_eq, Option.isNone_some, Option.isSome_some, Option.isNone_none, Option.isSome_none] at h46)
          refine yg0 rfl rfl rfl rfl ?_
          refine yg0 rfl rfl rfl rfl ?_
          refine y (ev_pick0 rfl rfl) rfl ?_
          refine ynil' (kthn (hK16 _ _ ?_))
          clear hK16
          refine ccond0 rfl ?_
          refine cexit (kthx (kthx (kbx (kthn ?_))))
          exact ksub (by repeat first | exact sub_nil | refine sub_cons rfl ?_ | refine sub_cons' rfl (by simp) ?_) (by repeat first | exact .refl | exact .nil | exact .z | apply Pk.s | refine Ge.e ?_ | apply Ge.pick | apply Ge.drop) (hJ1 ⟨i, D⟩ ⟨hI1o, by first | trivial | omega⟩)
end W
end Go.Proofs
