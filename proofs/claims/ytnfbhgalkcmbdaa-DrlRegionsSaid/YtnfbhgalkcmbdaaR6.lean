/- A part of the proof: contracts and plain lemmas, each without conditions beyond those that it names. -/
import Derived.Test.YtnfbhgalkcmbdaaR4
set_option linter.unusedVariables false
set_option linter.unusedSimpArgs false
set_option linter.constructorNameAsVariable false
namespace Go.Proofs
open Go Go.Sl
namespace W
set_option linter.unusedVariables false
theorem lawDRegions [Env] {R : List Seg} {bv blk : Int} (hb : 0 ≤ bv ∧ bv ≤ 255) (h1 : -9223372036854775808 ≤ blk) (h2 : blk ≤ 9223372036854775807) :
    Con Try.prog 4 [.int .u8 bv, i64 blk] [] R (Is (.bool true) []) := by
  refine con_enter Try.func4 Try.ntmps4 rfl rfl ?_
  refine cseq ?_; intro K1 hK1
  refine creg ?_
  refine y (ev_assign rfl) rfl ?_
  refine ynil' (kthn (hK1 _ _ ?_))
  clear hK1
  refine cseq ?_; intro K2 hK2
  refine cseq ?_; intro K3 hK3
  refine creg ?_
  refine ycall (awake8) rfl Try.call11 (by repeat first | exact .nil | exact .z | apply Pk.s | apply Tk.cons) rfl ?_
  rintro v L' ⟨rfl, rfl⟩
  skip
  · skip
    refine y (ev_not rfl) rfl ?_
    refine ynil' (kthn (hK3 _ _ ?_))
    clear hK3
    refine ccond0 rfl ?_
    refine cskip' (kthn (hK2 _ _ ?_))
    clear hK2
    refine cseq ?_; intro K4 hK4
    refine creg ?_
    refine y (ev_move rfl) rfl ?_
    refine y (ev_rem rfl rfl (by decide)) rfl ?_
    refine y (ev_conv rfl Try.underlying5 Try.underlying3) rfl ?_
    refine y (ev_add rfl rfl) rfl ?_
    rw [nBk_eq hb.1 hb.2]; obtain ⟨n1, n32⟩ := nBk_le bv; obtain ⟨n, hn0⟩ : ∃ n, nBk bv = n := ⟨_, rfl⟩; rw [hn0] at n1 n32 ⊢
    obtain ⟨hG0, hb0⟩ := new_dgood (N := 2) (n := n) (a := 1) (b := 0) (by decide) ⟨n1, n32⟩ (by decide) (by decide) (by decide)
    refine y (ev_assign rfl) rfl ?_
    refine ynil' (kthn (hK4 _ _ ?_))
    clear hK4
    refine cseq ?_; intro K5 hK5
    refine creg ?_
    refine ycall (secNew (n := 2) (by omega)) rfl Try.call12 (by repeat first | exact .nil | exact .z | apply Pk.s | apply Tk.cons) rfl ?_
    rintro v L' ⟨q19, rfl, rfl⟩
    refine y (ev_assign rfl) rfl ?_
    refine ynil' (kthn (hK5 _ _ ?_))
    clear hK5
    refine cseq ?_; intro K6 hK6
    refine cseq ?_; intro K7 hK7
    refine creg ?_
    refine y (ev_move rfl) rfl ?_
    skip
    · skip
      refine y (ev_eqlPnil rfl rfl Try.underlying24) rfl ?_
      refine ynil' (kthn (hK7 _ _ ?_))
      clear hK7
      refine ccond0 rfl ?_
      refine cskip' (kthn (hK6 _ _ ?_))
      clear hK6
      refine cseq ?_; intro K8 hK8
      refine creg ?_
      refine y (ev_move rfl) rfl ?_
      refine y (ev_move rfl) rfl ?_
      refine ycall (gDOpen hG0 rfl) rfl Try.call13 (by repeat first | exact .nil | exact .z | apply Pk.s | apply Tk.cons) rfl ?_
      rintro v L' ⟨l25, c25, rfl, rfl⟩
      refine y (ev_move rfl) rfl ?_
      refine y (ev_extract rfl rfl) rfl ?_
      refine y (ev_extract rfl rfl) rfl ?_
      refine y (ev_assign rfl) rfl ?_
      refine y (ev_assign rfl) rfl ?_
      refine ynil' (kthn (hK8 _ _ ?_))
      clear hK8
      refine cseq ?_; intro K9 hK9
      refine cseq ?_; intro K10 hK10
      refine creg ?_
      refine y (ev_move rfl) rfl ?_
      skip
      · skip
        refine y (ev_eqlPnil rfl rfl Try.underlying26) rfl ?_
        refine ynil' (kthn (hK10 _ _ ?_))
        clear hK10
        refine ccond0 rfl ?_
        refine cskip' (kthn (hK9 _ _ ?_))
        clear hK9
        refine cseq ?_; intro K11 hK11
        refine creg ?_
        refine y (ev_move rfl) rfl ?_
        refine y (ev_move rfl) rfl ?_
        refine ycall (gDMark (n := n) (N := 2) (k := 0) ?dg25 ?dk25 ?di25 ?dj25) rfl Try.call14 (by repeat first | exact .nil | exact .z | apply Pk.s | apply Tk.cons) rfl ?_
        case dg25 => exact hG0
        case dk25 => omega
        case di25 => omega
        case dj25 => omega
        rintro v L' ⟨D32, rfl, hG32, hb32, hs32, rfl⟩
        obtain ⟨L, hL⟩ : ∃ L, drlO D32 1 0 n = L := ⟨_, rfl⟩; have hLn : L.n = n := by rw [← hL]; rfl
        have hok := hG32.ok
        rw [hb0] at hb32
        rw [hL] at hok hb32 ⊢
        refine y (ev_assign rfl) rfl ?_
        refine ynil' (kthn (hK11 _ _ ?_))
        clear hK11
        refine cseq ?_; intro K12 hK12
        refine cseq ?_; intro K13 hK13
        refine creg ?_
        by_cases hin : inR n blk = true
        · skip
          refine y (ev_move rfl) rfl ?_
          refine y (ev_neq rfl rfl) rfl ?_
          first | rw [if_pos hin, show (!decide ((0 : Int) = 0)) = false from rfl] | rw [if_neg hin, show (!decide ((2 : Int) = 0)) = true from rfl]
          refine ynil' (kthn (hK13 _ _ ?_))
          clear hK13
          refine ccond0 rfl ?_
          refine cskip' (kthn (hK12 _ _ ?_))
          clear hK12
          refine cseq ?_; intro K14 hK14
          refine creg ?_
          rw [if_pos hin] at hb32
          obtain ⟨k0, k1⟩ := inR_iff.1 hin
          have hone := has_one (L := L) (k := blk) (by rw [hLn]; exact hin) hb32
          rw [hLn] at hone
          refine y (ev_assign rfl) rfl ?_
          refine ynil' (kthn (hK14 _ _ ?_))
          clear hK14
          refine cseq ?_; intro K15 hK15
          refine cseq ?_; intro K16 hK16
          refine creg ?_
          refine y (ev_assign rfl) rfl ?_
          refine ynil' (kthn (hK16 _ _ ?_))
          clear hK16
          have hJ1 : ∀ x : Nat, ((x ≤ n + 2) ∧ (x = n + 2)) → Sk 111 K15 ([(11, i64 ((x : Int) - 1)), (10, i64 (blksTo L (x - 1)).length), (7, ptr l25), (6, dp q19), (5, i64 n), (1, i64 blk)]) ([drlP l25 c25 L, celP c25 q19 (openC D32 1 0), dev q19 D32] ++ R) := by
            rintro i ⟨hI1, hX1⟩
            refine hK15 _ _ ?_
            have hi := hI1; have hal := blksTo_le L (i - 1)
            subst hX1
            refine cseq ?_; intro K17 hK17
            refine creg ?_
            refine y (ev_move rfl) rfl ?_
            refine ycall (secPending ?ok32) rfl Try.call21 (by repeat first | exact .nil | exact .z | apply Pk.s | apply Tk.cons) rfl ?_
            case ok32 => exact hok.d
            rintro v L' ⟨s81, rfl, ok81, rfl⟩
            rw [hG32.es] at ok81 ⊢
            have hbl : (blksTo L (n + 2 - 1)).length = L.blks.length := by
              rw [show n + 2 - 1 = n + 1 by omega, blksTo_succ, if_neg (by rw [hone]; unfold inR; simp)]
              unfold DrlM.blks; rw [hLn]
            rw [hbl]
            refine y (ev_assign rfl) rfl ?_
            refine ynil' (kthn (hK17 _ _ ?_))
            clear hK17
            refine cseq ?_; intro K18 hK18
            refine creg ?_
            refine y (ev_move rfl) rfl ?_
            refine ycall (secFuse) rfl Try.call22 (by repeat first | exact .nil | exact .z | apply Pk.s | apply Tk.cons) rfl ?_
            rintro v L' ⟨rfl, rfl⟩
            have hokf : L.ok (D32.setFuse 0) := by rw [← hL]; exact hG32.fuse (by decide)
            have hmk : L.mark (D32.setFuse 0) blk = (0, L, D32.setFuse 0) := by unfold DrlM.mark; rw [if_neg (by rw [hLn, hin]; decide), if_pos (by rw [hone, hin]; simp)]
            have hco : openC D32 1 0 = L.c := by rw [← hL]; rfl
            rw [hco]
            refine ynil' (kthn (hK18 _ _ ?_))
            clear hK18
            refine cseq ?_; intro K19 hK19
            refine creg ?_
            refine y (ev_move rfl) rfl ?_
            refine y (ev_move rfl) rfl ?_
            refine ycall (dMark (L := L) (i := blk) hokf (by omega) (by omega)) rfl Try.call14 (by repeat first | exact .nil | exact .z | apply Pk.s | apply Tk.cons) rfl ?_
            rintro v L' ⟨rfl, rfl⟩
            rw [hmk]; dsimp only
            skip
            · skip
              refine y (ev_eql rfl rfl) rfl ?_
              refine y (ev_move rfl) rfl ?_
              refine yg1 rfl rfl ?_
              refine y (ev_move rfl) rfl ?_
              refine yg1 rfl rfl ?_
              refine ycall (secDead) rfl Try.call23 (by repeat first | exact .nil | exact .z | apply Pk.s | apply Tk.cons) rfl ?_
              rintro v L' ⟨rfl, rfl⟩
              rw [show (D32.setFuse 0).dead = false from hG32.up.live]
              refine yg1 rfl rfl ?_
              refine y (ev_not rfl) rfl ?_
              refine y (ev_pick1 rfl rfl) rfl ?_
              refine y (ev_move rfl) rfl ?_
              refine yg1 rfl rfl ?_
              refine y (ev_move rfl) rfl ?_
              refine yg1 rfl rfl ?_
              first
                | refine y (ev_len rfl Try.underlying32) rfl ?_
                | refine y (ev_lenSv rfl Try.underlying32 (by assumption)) rfl ?_
                | refine y (ev_lenV rfl Try.underlying32 (RdV.lenVal (by assumption))) rfl ?_
                | refine y (ev_lenV rfl Try.underlying32 (RdB.lenVal (by assumption))) rfl ?_
              refine yg1 rfl rfl ?_
              refine y (ev_eql rfl rfl) rfl ?_
              refine y (ev_pick1 rfl rfl) rfl ?_
              refine y (ev_move rfl) rfl ?_
              refine yg1 rfl rfl ?_
              refine y (ev_move rfl) rfl ?_
              refine yg1 rfl rfl ?_
              refine ycall (dBlocks ?dn52 ?db52) rfl Try.call16 (by repeat first | exact .nil | exact .z | apply Pk.s | apply Tk.cons) rfl ?_
              case dn52 => exact hok.n
              case db52 => exact hok.bits
              rintro v L' ⟨s100, rfl, ok100, rfl⟩
              refine yg1 rfl rfl ?_
              first
                | refine y (ev_len rfl Try.underlying32) rfl ?_
                | refine y (ev_lenSv rfl Try.underlying32 (by assumption)) rfl ?_
                | refine y (ev_lenV rfl Try.underlying32 (RdV.lenVal (by assumption))) rfl ?_
                | refine y (ev_lenV rfl Try.underlying32 (RdB.lenVal (by assumption))) rfl ?_
              refine yg1 rfl rfl ?_
              refine y (ev_move rfl) rfl ?_
              refine yg1 rfl rfl ?_
              refine y (ev_eql rfl rfl) rfl ?_
              rw [show (decide (((L.blks.length : Nat) : Int) = ((L.blks.length : Nat) : Int))) = true by simp]
              refine y (ev_pick1 rfl rfl) rfl ?_
              refine y (ev_move rfl) rfl ?_
              refine yg1 rfl rfl ?_
              refine y (ev_move rfl) rfl ?_
              refine yg1 rfl rfl ?_
              refine ycall (dRow) rfl Try.call18 (by repeat first | exact .nil | exact .z | apply Pk.s | apply Tk.cons) rfl ?_
              rintro v L' ⟨rfl, rfl⟩
              refine yg1 rfl rfl ?_
              refine ycall (xCount ?xn60 ?xb60) rfl Try.call24 (by repeat first | exact .nil | exact .z | apply Pk.s | apply Tk.cons) rfl ?_
              case xn60 => have := regs_le hok.n; omega
              case xb60 => exact hok.bits
              rintro v L' ⟨rfl, rfl⟩
              rw [hb32, count_one (by rw [hLn]; exact inR_reg hin)]
              refine yg1 rfl rfl ?_
              refine y (ev_eql rfl rfl) rfl ?_
              refine y (ev_pick1 rfl rfl) rfl ?_
              refine y (ev_assign rfl) rfl ?_
              refine ynil' (kthn (hK19 _ _ ?_))
              clear hK19
              refine cret ?_
              first
                | (exfalso; omega; done)
                | (refine kretv Try.results4 rfl (L1 := R) (by repeat first | exact .refl | exact .nil | exact .z | apply Pk.s | refine Ge.e ?_ | apply Ge.pick | apply Ge.drop) ?_
                   exact ⟨_, ⟨by first | rfl | (exfalso; simp_all; done), rfl⟩, by first | rfl | (exfalso; simp_all; done)⟩)
          clear hK15
          refine cblock ?_
          refine cloop (A := Nat) (fun x => [(11, i64 ((x : Int) - 1)), (10, i64 (blksTo L (x - 1)).length), (7, ptr l25), (6, dp q19), (5, i64 n), (1, i64 blk)]) (fun x => [drlP l25 c25 L, celP c25 q19 (openC D32 1 0), dev q19 D32] ++ R) (fun x => x ≤ n + 2) (fun x => n + 2 - x) (0) ?_ (by repeat first | exact sub_nil | refine sub_cons rfl ?_ | refine sub_cons' rfl (by simp) ?_) (by repeat first | exact .refl | exact .nil | exact .z | apply Pk.s | refine Ge.e ?_ | apply Ge.pick | apply Ge.drop) ?_
          · exact Nat.zero_le _
          rintro i hI1 KL1 hL1
          have hI1o := hI1
          have hi := hI1; have hal := blksTo_le L (i - 1)
          refine cseq ?_; intro K20 hK20
          refine cseq ?_; intro K21 hK21
          refine creg ?_
          refine y (ev_move rfl) rfl ?_
          refine y (ev_move rfl) rfl ?_
          refine y (ev_leq rfl rfl) rfl ?_
          refine ynil' (kthn (hK21 _ _ ?_))
          clear hK21
          refine ccond rfl (fun h67 => ?_) (fun h67 => ?_)
          · (try simp only [decide_eq_true_eq, beq_iff_eq, beq_eq_false_iff_ne, decide_eq_decide, decide_eq_false_iff_not, Bool.not_eq_true', Bool.not_eq_false', Bool.not_eq_true, Bool.not_eq_false, Bool.not_not, ne_eq, Option.isNone_some, Option.isSome_some, Option.isNone_none, Option.isSome_none] at h67)
            refine cskip' (kthn (hK20 _ _ ?_))
            clear hK20
            refine cseq ?_; intro K22 hK22
            have hJr16 : ∀ x_ : Unit, (i < n + 2) → Sk 111 K22 ([(11, i64 ((i : Int) - 1)), (10, i64 (blksTo L i).length), (7, ptr l25), (6, dp q19), (5, i64 n), (1, i64 blk)]) ([drlP l25 c25 L, celP c25 q19 (openC D32 1 0), dev q19 D32] ++ R) := by
              rintro x hIr16
              refine hK22 _ _ ?_
              refine creg ?_
              refine y (ev_move rfl) rfl ?_
              refine y (ev_add rfl rfl) rfl ?_
              rw [wr (by omega) (by omega), show (i : Int) - 1 + 1 = ((i + 1 : Nat) : Int) - 1 by omega]
              refine y (ev_assign rfl) rfl ?_
              refine ynil' (kthn ?_)
              exact hL1 (i + 1) (show i + 1 ≤ n + 2 by omega) (by omega) _ _ (by repeat first | exact sub_nil | refine sub_cons rfl ?_ | refine sub_cons' rfl (by simp) ?_) (by repeat first | exact .refl | exact .nil | exact .z | apply Pk.s | refine Ge.e ?_ | apply Ge.pick | apply Ge.drop)
            clear hK22
            refine cblock ?_
            refine cseq ?_; intro K23 hK23
            refine cseq ?_; intro K24 hK24
            refine creg ?_
            refine y (ev_move rfl) rfl ?_
            refine y (ev_move rfl) rfl ?_
            refine ycall (dHas ?dn73 ?db73 ?di73 ?dj73) rfl Try.call20 (by repeat first | exact .nil | exact .z | apply Pk.s | apply Tk.cons) rfl ?_
            case dn73 => exact hok.n
            case db73 => exact hok.bits
            case di73 => omega
            case dj73 => omega
            rintro v L' ⟨rfl, rfl⟩
            rw [hone]
            refine y (ev_move rfl) rfl ?_
            refine y (ev_geq rfl rfl) rfl ?_
            refine y (ev_move rfl) rfl ?_
            refine ysplit 62 rfl (fun h77 => ?_) (fun h77 => ?_)
            · (try simp only [decide_eq_true_eq, beq_iff_eq, beq_eq_false_iff_ne, decide_eq_decide, decide_eq_false_iff_not, Bool.not_eq_true', Bool.not_eq_false', Bool.not_eq_true, Bool.not_eq_false, Bool.not_not, ne_eq, Option.isNone_some, Option.isSome_some, Option.isNone_none, Option.isSome_none] at h77)
              refine yg1 rfl rfl ?_
              refine y (ev_move rfl) rfl ?_
              refine yg1 rfl rfl ?_
              refine y (ev_move rfl) rfl ?_
              refine yg1 rfl rfl ?_
              refine y (ev_lss rfl rfl) rfl ?_
              refine y (ev_pick1 rfl rfl) rfl ?_
              refine y (ev_move rfl) rfl ?_
              refine ysplit 67 rfl (fun h83 => ?_) (fun h83 => ?_)
              · (try simp only [decide_eq_true_eq, beq_iff_eq, beq_eq_false_iff_ne, decide_eq_decide, decide_eq_false_iff_not, Bool.not_eq_true', Bool.not_eq_false', Bool.not_eq_true, Bool.not_eq_false, Bool.not_not, ne_eq, Option.isNone_some, Option.isSome_some, Option.isNone_none, Option.isSome_none] at h83)
                refine yg1 rfl rfl ?_
                refine y (ev_move rfl) rfl ?_
                refine yg1 rfl rfl ?_
                refine y (ev_quo rfl rfl (by decide)) rfl ?_
                rw [Int.tdiv_eq_ediv_of_nonneg (by omega), wr (by omega) (by omega)]
                refine yg1 rfl rfl ?_
                refine y (ev_move rfl) rfl ?_
                refine yg1 rfl rfl ?_
                refine y (ev_quo rfl rfl (by decide)) rfl ?_
                rw [Int.tdiv_eq_ediv_of_nonneg (by omega), wr (by omega) (by omega)]
                refine yg1 rfl rfl ?_
                refine y (ev_eql rfl rfl) rfl ?_
                refine y (ev_pick1 rfl rfl) rfl ?_
                refine y (ev_neqB rfl rfl Try.underlying4) rfl ?_
                refine ynil' (kthn (hK24 _ _ ?_))
                clear hK24
                refine ccond rfl (fun h91 => ?_) (fun h91 => ?_)
                · (try simp only [decide_eq_true_eq, beq_iff_eq, beq_eq_false_iff_ne, decide_eq_decide, decide_eq_false_iff_not, Bool.not_eq_true', Bool.not_eq_false', Bool.not_eq_true, Bool.not_eq_false, Bool.not_not, ne_eq, Option.isNone_some, Option.isSome_some, Option.isNone_none, Option.isSome_none] at h91)
                  exfalso; unfold inR at h91; by_cases c1 : (0 : Int) ≤ (i : Int) - 1 <;> by_cases c2 : (i : Int) - 1 < n <;> by_cases c3 : ((i : Int) - 1) / 4 = blk / 4 <;> simp_all <;> omega
                · (try simp only [decide_eq_true_eq, beq_iff_eq, beq_eq_false_iff_ne, decide_eq_decide, decide_eq_false_iff_not, Bool.not_eq_true', Bool.not_eq_false', Bool.not_eq_true, Bool.not_eq_false, Bool.not_not, ne_eq, Option.isNone_some, Option.isSome_some, Option.isNone_none, Option.isSome_none] at h91)
                  refine cskip' (kthn (hK23 _ _ ?_))
                  clear hK23
                  refine cseq ?_; intro K25 hK25
                  refine creg ?_
                  refine y (ev_move rfl) rfl ?_
                  refine y (ev_move rfl) rfl ?_
                  refine ycall (dHas ?dn94 ?db94 ?di94 ?dj94) rfl Try.call20 (by repeat first | exact .nil | exact .z | apply Pk.s | apply Tk.cons) rfl ?_
                  case dn94 => exact hok.n
                  case db94 => exact hok.bits
                  case di94 => omega
                  case dj94 => omega
                  rintro v L' ⟨rfl, rfl⟩
                  refine ynil' (kthn (hK25 _ _ ?_))
                  clear hK25
                  refine ccond rfl (fun h95 => ?_) (fun h95 => ?_)
                  · (try simp only [decide_eq_true_eq, beq_iff_eq, beq_eq_false_iff_ne, decide_eq_decide, decide_eq_false_iff_not, Bool.not_eq_true', Bool.not_eq_false', Bool.not_eq_true, Bool.not_eq_false, Bool.not_not, ne_eq, Option.isNone_some, Option.isSome_some, Option.isNone_none, Option.isSome_none] at h95)
                    have hsu : (blksTo L i).length = (blksTo L (i - 1)).length + 1 := by
                      cases i with
                      | zero => rw [hone] at h95; unfold inR at h95; simp at h95
                      | succ j => rw [show j + 1 - 1 = j by omega, blksTo_succ, if_pos (by rw [show ((j + 1 : Nat) : Int) - 1 = (j : Int) by omega] at h95; exact h95)]; simp
                    refine creg ?_
                    refine y (ev_move rfl) rfl ?_
                    refine y (ev_add rfl rfl) rfl ?_
                    rw [wr (by omega) (by omega), show ((blksTo L (i - 1)).length : Int) + 1 = ((blksTo L i).length : Int) by omega]
                    refine y (ev_assign rfl) rfl ?_
                    refine ynil' (kbn (kthn ?_))
                    exact ksub (by repeat first | exact sub_nil | refine sub_cons rfl ?_ | refine sub_cons' rfl (by simp) ?_) (by repeat first | exact .refl | exact .nil | exact .z | apply Pk.s | refine Ge.e ?_ | apply Ge.pick | apply Ge.drop) (hJr16 () (by omega))
                  · (try simp only [decide_eq_true_eq, beq_iff_eq, beq_eq_false_iff_ne, decide_eq_decide, decide_eq_false_iff_not, Bool.not_eq_true', Bool.not_eq_false', Bool.not_eq_true, Bool.not_eq_false, Bool.not_not, ne_eq, Option.isNone_some, Option.isSome_some, Option.isNone_none, Option.isSome_none] at h95)
                    have hsu : blksTo L i = blksTo L (i - 1) := by
                      cases i with
                      | zero => rfl
                      | succ j => rw [show j + 1 - 1 = j by omega, blksTo_succ, if_neg (by rw [show ((j + 1 : Nat) : Int) - 1 = (j : Int) by omega] at h95; rw [h95]; decide)]
                    rw [← hsu]
                    refine cskip' (kbn (kthn ?_))
                    exact ksub (by repeat first | exact sub_nil | refine sub_cons rfl ?_ | refine sub_cons' rfl (by simp) ?_) (by repeat first | exact .refl | exact .nil | exact .z | apply Pk.s | refine Ge.e ?_ | apply Ge.pick | apply Ge.drop) (hJr16 () (by omega))
              · (try simp only [decide_eq_true_eq, beq_iff_eq, beq_eq_false_iff_ne, decide_eq_decide, decide_eq_false_iff_not, Bool.not_eq_true', Bool.not_eq_false', Bool.not_eq_true, Bool.not_eq_false, Bool.not_not, ne_eq, Option.isNone_some, Option.isSome_some, Option.isNone_none, Option.isSome_none] at h83)
                refine yg0 rfl rfl rfl rfl ?_
                refine yg0 rfl rfl rfl rfl ?_
                refine yg0 rfl rfl rfl rfl ?_
                refine yg0 rfl rfl rfl rfl ?_
                refine yg0 rfl rfl rfl rfl ?_
                refine y (ev_pick0 rfl rfl) rfl ?_
                refine y (ev_neqB rfl rfl Try.underlying4) rfl ?_
                refine ynil' (kthn (hK24 _ _ ?_))
                clear hK24
                refine ccond rfl (fun h101 => ?_) (fun h101 => ?_)
                · (try simp only [decide_eq_true_eq, beq_iff_eq, beq_eq_false_iff_ne, decide_eq_decide, decide_eq_false_iff_not, Bool.not_eq_true', Bool.not_eq_false', Bool.not_eq_true, Bool.not_eq_false, Bool.not_not, ne_eq, Option.isNone_some, Option.isSome_some, Option.isNone_none, Option.isSome_none] at h101)
                  exfalso; unfold inR at h101; by_cases c1 : (0 : Int) ≤ (i : Int) - 1 <;> by_cases c2 : (i : Int) - 1 < n <;> by_cases c3 : ((i : Int) - 1) / 4 = blk / 4 <;> simp_all <;> omega
                · (try simp only [decide_eq_true_eq, beq_iff_eq, beq_eq_false_iff_ne, decide_eq_decide, decide_eq_false_iff_not, Bool.not_eq_true', Bool.not_eq_false', Bool.not_eq_true, Bool.not_eq_false, Bool.not_not, ne_eq, Option.isNone_some, Option.isSome_some, Option.isNone_none, Option.isSome_none] at h101)
                  refine cskip' (kthn (hK23 _ _ ?_))
                  clear hK23
                  refine cseq ?_; intro K26 hK26
                  refine creg ?_
                  refine y (ev_move rfl) rfl ?_
                  refine y (ev_move rfl) rfl ?_
                  refine ycall (dHas ?dn104 ?db104 ?di104 ?dj104) rfl Try.call20 (by repeat first | exact .nil | exact .z | apply Pk.s | apply Tk.cons) rfl ?_
                  case dn104 => exact hok.n
                  case db104 => exact hok.bits
                  case di104 => omega
                  case dj104 => omega
                  rintro v L' ⟨rfl, rfl⟩
                  refine ynil' (kthn (hK26 _ _ ?_))
                  clear hK26
                  refine ccond rfl (fun h105 => ?_) (fun h105 => ?_)
                  · (try simp only [decide_eq_true_eq, beq_iff_eq, beq_eq_false_iff_ne, decide_eq_decide, decide_eq_false_iff_not, Bool.not_eq_true', Bool.not_eq_false', Bool.not_eq_true, Bool.not_eq_false, Bool.not_not, ne_eq, Option.isNone_some, Option.isSome_some, Option.isNone_none, Option.isSome_none] at h105)
                    have hsu : (blksTo L i).length = (blksTo L (i - 1)).length + 1 := by
                      cases i with
                      | zero => rw [hone] at h105; unfold inR at h105; simp at h105
                      | succ j => rw [show j + 1 - 1 = j by omega, blksTo_succ, if_pos (by rw [show ((j + 1 : Nat) : Int) - 1 = (j : Int) by omega] at h105; exact h105)]; simp
                    refine creg ?_
                    refine y (ev_move rfl) rfl ?_
                    refine y (ev_add rfl rfl) rfl ?_
                    rw [wr (by omega) (by omega), show ((blksTo L (i - 1)).length : Int) + 1 = ((blksTo L i).length : Int) by omega]
                    refine y (ev_assign rfl) rfl ?_
                    refine ynil' (kbn (kthn ?_))
                    exact ksub (by repeat first | exact sub_nil | refine sub_cons rfl ?_ | refine sub_cons' rfl (by simp) ?_) (by repeat first | exact .refl | exact .nil | exact .z | apply Pk.s | refine Ge.e ?_ | apply Ge.pick | apply Ge.drop) (hJr16 () (by omega))
                  · (try simp only [decide_eq_true_eq, beq_iff_eq, beq_eq_false_iff_ne, decide_eq_decide, decide_eq_false_iff_not, Bool.not_eq_true', Bool.not_eq_false', Bool.not_eq_true, Bool.not_eq_false, Bool.not_not, ne_eq, Option.isNone_some, Option.isSome_some, Option.isNone_none, Option.isSome_none] at h105)
                    have hsu : blksTo L i = blksTo L (i - 1) := by
                      cases i with
                      | zero => rfl
                      | succ j => rw [show j + 1 - 1 = j by omega, blksTo_succ, if_neg (by rw [show ((j + 1 : Nat) : Int) - 1 = (j : Int) by omega] at h105; rw [h105]; decide)]
                    rw [← hsu]
                    refine cskip' (kbn (kthn ?_))
                    exact ksub (by repeat first | exact sub_nil | refine sub_cons rfl ?_ | refine sub_cons' rfl (by simp) ?_) (by repeat first | exact .refl | exact .nil | exact .z | apply Pk.s | refine Ge.e ?_ | apply Ge.pick | apply Ge.drop) (hJr16 () (by omega))
            · (try simp only [decide_eq_true_eq, beq_iff_eq, beq_eq_false_iff_ne, decide_eq_decide, decide_eq_false_iff_not, Bool.not_eq_true', Bool.not_eq_false', Bool.not_eq_true, Bool.not_eq_false, Bool.not_not, ne_eq, Option.isNone_some, Option.isSome_some, Option.isNone_none, Option.isSome_none] at h77)
              refine yg0 rfl rfl rfl rfl ?_
              refine yg0 rfl rfl rfl rfl ?_
              refine yg0 rfl rfl rfl rfl ?_
              refine y (ev_pick0 rfl rfl) rfl ?_
              refine y (ev_move rfl) rfl ?_
              refine yg0 rfl rfl rfl rfl ?_
              refine yg0 rfl rfl rfl rfl ?_
              refine yg0 rfl rfl rfl rfl ?_
              refine yg0 rfl rfl rfl rfl ?_
              refine yg0 rfl rfl rfl rfl ?_
              refine y (ev_pick0 rfl rfl) rfl ?_
              refine y (ev_neqB rfl rfl Try.underlying4) rfl ?_
              refine ynil' (kthn (hK24 _ _ ?_))
              clear hK24
              refine ccond rfl (fun h113 => ?_) (fun h113 => ?_)
              · (try simp only [decide_eq_true_eq, beq_iff_eq, beq_eq_false_iff_ne, decide_eq_decide, decide_eq_false_iff_not, Bool.not_eq_true', Bool.not_eq_false', Bool.not_eq_true, Bool.not_eq_false, Bool.not_not, ne_eq, Option.isNone_some, Option.isSome_some, Option.isNone_none, Option.isSome_none] at h113)
                exfalso; unfold inR at h113; by_cases c1 : (0 : Int) ≤ (i : Int) - 1 <;> by_cases c2 : (i : Int) - 1 < n <;> by_cases c3 : ((i : Int) - 1) / 4 = blk / 4 <;> simp_all <;> omega
              · (try simp only [decide_eq_true_eq, beq_iff_eq, beq_eq_false_iff_ne, decide_eq_decide, decide_eq_false_iff_not, Bool.not_eq_true', Bool.not_eq_false', Bool.not_eq_true, Bool.not_eq_false, Bool.not_not, ne_eq, Option.isNone_some, Option.isSome_some, Option.isNone_none, Option.isSome_none] at h113)
                refine cskip' (kthn (hK23 _ _ ?_))
                clear hK23
                refine cseq ?_; intro K27 hK27
                refine creg ?_
                refine y (ev_move rfl) rfl ?_
                refine y (ev_move rfl) rfl ?_
                refine ycall (dHas ?dn116 ?db116 ?di116 ?dj116) rfl Try.call20 (by repeat first | exact .nil | exact .z | apply Pk.s | apply Tk.cons) rfl ?_
                case dn116 => exact hok.n
                case db116 => exact hok.bits
                case di116 => omega
                case dj116 => omega
                rintro v L' ⟨rfl, rfl⟩
                refine ynil' (kthn (hK27 _ _ ?_))
                clear hK27
                refine ccond rfl (fun h117 => ?_) (fun h117 => ?_)
                · (try simp only [decide_eq_true_eq, beq_iff_eq, beq_eq_false_iff_ne, decide_eq_decide, decide_eq_false_iff_not, Bool.not_eq_true', Bool.not_eq_false', Bool.not_eq_true, Bool.not_eq_false, Bool.not_not, ne_eq, Option.isNone_some, Option.isSome_some, Option.isNone_none, Option.isSome_none] at h117)
                  have hsu : (blksTo L i).length = (blksTo L (i - 1)).length + 1 := by
                    cases i with
                    | zero => rw [hone] at h117; unfold inR at h117; simp at h117
                    | succ j => rw [show j + 1 - 1 = j by omega, blksTo_succ, if_pos (by rw [show ((j + 1 : Nat) : Int) - 1 = (j : Int) by omega] at h117; exact h117)]; simp
                  refine creg ?_
                  refine y (ev_move rfl) rfl ?_
                  refine y (ev_add rfl rfl) rfl ?_
                  rw [wr (by omega) (by omega), show ((blksTo L (i - 1)).length : Int) + 1 = ((blksTo L i).length : Int) by omega]
                  refine y (ev_assign rfl) rfl ?_
                  refine ynil' (kbn (kthn ?_))
                  exact ksub (by repeat first | exact sub_nil | refine sub_cons rfl ?_ | refine sub_cons' rfl (by simp) ?_) (by repeat first | exact .refl | exact .nil | exact .z | apply Pk.s | refine Ge.e ?_ | apply Ge.pick | apply Ge.drop) (hJr16 () (by omega))
                · (try simp only [decide_eq_true_eq, beq_iff_eq, beq_eq_false_iff_ne, decide_eq_decide, decide_eq_false_iff_not, Bool.not_eq_true', Bool.not_eq_false', Bool.not_eq_true, Bool.not_eq_false, Bool.not_not, ne_eq, Option.isNone_some, Option.isSome_some, Option.isNone_none, Option.isSome_none] at h117)
                  have hsu : blksTo L i = blksTo L (i - 1) := by
                    cases i with
                    | zero => rfl
                    | succ j => rw [show j + 1 - 1 = j by omega, blksTo_succ, if_neg (by rw [show ((j + 1 : Nat) : Int) - 1 = (j : Int) by omega] at h117; rw [h117]; decide)]
                  rw [← hsu]
                  refine cskip' (kbn (kthn ?_))
                  exact ksub (by repeat first | exact sub_nil | refine sub_cons rfl ?_ | refine sub_cons' rfl (by simp) ?_) (by repeat first | exact .refl | exact .nil | exact .z | apply Pk.s | refine Ge.e ?_ | apply Ge.pick | apply Ge.drop) (hJr16 () (by omega))
          · (try simp only [decide_eq_true_eq, beq_iff_eq, beq_eq_false_iff_ne, decide_eq_decide, decide_eq_false_iff_not, Bool.not_eq_true', Bool.not_eq_false', Bool.not_eq_true, Bool.not_eq_false, Bool.not_not, ne_eq, Option.isNone_some, Option.isSome_some, Option.isNone_none, Option.isSome_none] at h67)
            refine cexit (kthx (kthx (kbx (kthn ?_))))
            exact ksub (by repeat first | exact sub_nil | refine sub_cons rfl ?_ | refine sub_cons' rfl (by simp) ?_) (by repeat first | exact .refl | exact .nil | exact .z | apply Pk.s | refine Ge.e ?_ | apply Ge.pick | apply Ge.drop) (hJ1 i ⟨hI1o, by omega⟩)
        · skip
          refine y (ev_move rfl) rfl ?_
          refine y (ev_neq rfl rfl) rfl ?_
          first | rw [if_pos hin, show (!decide ((0 : Int) = 0)) = false from rfl] | rw [if_neg hin, show (!decide ((2 : Int) = 0)) = true from rfl]
          refine ynil' (kthn (hK13 _ _ ?_))
          clear hK13
          refine ccond1 rfl ?_
          refine cseq ?_; intro K28 hK28
          refine creg ?_
          rw [if_neg hin] at hb32
          refine y (ev_move rfl) rfl ?_
          refine y (ev_eql rfl rfl) rfl ?_
          refine y (ev_move rfl) rfl ?_
          refine yg1 rfl rfl ?_
          refine y (ev_move rfl) rfl ?_
          refine yg1 rfl rfl ?_
          refine y (ev_lss rfl rfl) rfl ?_
          refine yg1 rfl rfl ?_
          refine y (ev_move rfl) rfl ?_
          refine ysplit 40 rfl (fun h129 => ?_) (fun h129 => ?_)
          · (try simp only [decide_eq_true_eq, beq_iff_eq, beq_eq_false_iff_ne, decide_eq_decide, decide_eq_false_iff_not, Bool.not_eq_true', Bool.not_eq_false', Bool.not_eq_true, Bool.not_eq_false, Bool.not_not, ne_eq, Option.isNone_some, Option.isSome_some, Option.isNone_none, Option.isSome_none] at h129)
            refine yg0 rfl rfl rfl rfl ?_
            refine yg0 rfl rfl rfl rfl ?_
            refine yg0 rfl rfl rfl rfl ?_
            refine yg1 rfl rfl ?_
            refine y (ev_pick1 rfl rfl) rfl ?_
            refine y (ev_pick1 rfl rfl) rfl ?_
            refine y (ev_move rfl) rfl ?_
            refine yg1 rfl rfl ?_
            refine y (ev_move rfl) rfl ?_
            refine yg1 rfl rfl ?_
            refine ycall (dBlocks ?dn134 ?db134) rfl Try.call16 (by repeat first | exact .nil | exact .z | apply Pk.s | apply Tk.cons) rfl ?_
            case dn134 => exact hok.n
            case db134 => exact hok.bits
            rintro v L' ⟨s48, rfl, ok48, rfl⟩
            rw [zero_blks hb32] at ok48 ⊢
            refine yg1 rfl rfl ?_
            first
              | refine y (ev_len rfl Try.underlying32) rfl ?_
              | refine y (ev_lenSv rfl Try.underlying32 (by assumption)) rfl ?_
              | refine y (ev_lenV rfl Try.underlying32 (RdV.lenVal (by assumption))) rfl ?_
              | refine y (ev_lenV rfl Try.underlying32 (RdB.lenVal (by assumption))) rfl ?_
            refine yg1 rfl rfl ?_
            refine y (ev_eql rfl rfl) rfl ?_
            refine y (ev_pick1 rfl rfl) rfl ?_
            refine y (ev_assign rfl) rfl ?_
            refine ynil' (kthn (hK28 _ _ ?_))
            clear hK28
            refine cret (kthr ?_)
            first
              | (exfalso; omega; done)
              | (refine kretv Try.results4 rfl (L1 := R) (by repeat first | exact .refl | exact .nil | exact .z | apply Pk.s | refine Ge.e ?_ | apply Ge.pick | apply Ge.drop) ?_
                 exact ⟨_, ⟨by first | rfl | (exfalso; simp_all; done), rfl⟩, by first | rfl | (exfalso; simp_all; done)⟩)
          · (try simp only [decide_eq_true_eq, beq_iff_eq, beq_eq_false_iff_ne, decide_eq_decide, decide_eq_false_iff_not, Bool.not_eq_true', Bool.not_eq_false', Bool.not_eq_true, Bool.not_eq_false, Bool.not_not, ne_eq, Option.isNone_some, Option.isSome_some, Option.isNone_none, Option.isSome_none] at h129)
            refine yg1 rfl rfl ?_
            refine y (ev_move rfl) rfl ?_
            refine yg1 rfl rfl ?_
            refine y (ev_move rfl) rfl ?_
            refine yg1 rfl rfl ?_
            refine y (ev_geq rfl rfl) rfl ?_
            rw [decide_eq_true (show (n : Int) ≤ blk by have hnb : ¬ (0 ≤ blk ∧ blk < (n : Int)) := fun e => hin (inR_iff.2 e); omega)]
            refine yg1 rfl rfl ?_
            refine y (ev_pick0 rfl rfl) rfl ?_
            refine y (ev_pick1 rfl rfl) rfl ?_
            refine y (ev_move rfl) rfl ?_
            refine yg1 rfl rfl ?_
            refine y (ev_move rfl) rfl ?_
            refine yg1 rfl rfl ?_
            refine ycall (dBlocks ?dn146 ?db146) rfl Try.call16 (by repeat first | exact .nil | exact .z | apply Pk.s | apply Tk.cons) rfl ?_
            case dn146 => exact hok.n
            case db146 => exact hok.bits
            rintro v L' ⟨s48, rfl, ok48, rfl⟩
            rw [zero_blks hb32] at ok48 ⊢
            refine yg1 rfl rfl ?_
            first
              | refine y (ev_len rfl Try.underlying32) rfl ?_
              | refine y (ev_lenSv rfl Try.underlying32 (by assumption)) rfl ?_
              | refine y (ev_lenV rfl Try.underlying32 (RdV.lenVal (by assumption))) rfl ?_
              | refine y (ev_lenV rfl Try.underlying32 (RdB.lenVal (by assumption))) rfl ?_
            refine yg1 rfl rfl ?_
            refine y (ev_eql rfl rfl) rfl ?_
            refine y (ev_pick1 rfl rfl) rfl ?_
            refine y (ev_assign rfl) rfl ?_
            refine ynil' (kthn (hK28 _ _ ?_))
            clear hK28
            refine cret (kthr ?_)
            first
              | (exfalso; omega; done)
              | (refine kretv Try.results4 rfl (L1 := R) (by repeat first | exact .refl | exact .nil | exact .z | apply Pk.s | refine Ge.e ?_ | apply Ge.pick | apply Ge.drop) ?_
                 exact ⟨_, ⟨by first | rfl | (exfalso; simp_all; done), rfl⟩, by first | rfl | (exfalso; simp_all; done)⟩)
end W
end Go.Proofs
