/- A part of the proof: contracts and plain lemmas, each without conditions beyond those that it names. -/
import Derived.Test.YtnfbhgalkcmbdaaR4
set_option linter.unusedVariables false
set_option linter.unusedSimpArgs false
set_option linter.constructorNameAsVariable false
namespace Go.Proofs
open Go Go.Sl
namespace W
set_option linter.unusedVariables false
theorem lawDClears [Env] {R : List Seg} {bv ov : Int} {lv : Value} {bs : Bytes} (hb : 0 ≤ bv ∧ bv ≤ 255) (ho : 0 ≤ ov ∧ ov ≤ 255) (hl : RdV R lv bs.length (bytesV bs)) :
    Con Try.prog 5 [.int .u8 bv, lv, .int .u8 ov] [] R (Is (.bool true) []) := by
  have hvl := hl.lenVal
  refine con_enter Try.func5 Try.ntmps5 rfl rfl ?_
  refine cseq ?_; intro K1 hK1
  refine creg ?_
  refine y (ev_assign rfl) rfl ?_
  refine ynil' (kthn (hK1 _ _ ?_))
  clear hK1
  refine cseq ?_; intro K2 hK2
  refine cseq ?_; intro K3 hK3
  refine creg ?_
  refine ycall (awake8) rfl Try.call11 (by repeat first | exact .nil | exact .z | apply Pk.s | apply Tk.cons) rfl ?_
  rintro v L' ⟨rfl, rfl⟩
  skip
  · skip
    refine y (ev_not rfl) rfl ?_
    refine ynil' (kthn (hK3 _ _ ?_))
    clear hK3
    refine ccond0 rfl ?_
    refine cskip' (kthn (hK2 _ _ ?_))
    clear hK2
    refine cseq ?_; intro K4 hK4
    refine creg ?_
    refine y (ev_move rfl) rfl ?_
    refine y (ev_rem rfl rfl (by decide)) rfl ?_
    refine y (ev_conv rfl Try.underlying5 Try.underlying3) rfl ?_
    refine y (ev_add rfl rfl) rfl ?_
    rw [nBk_eq hb.1 hb.2]; obtain ⟨n1, n32⟩ := nBk_le bv; obtain ⟨n, hn0⟩ : ∃ n, nBk bv = n := ⟨_, rfl⟩; rw [hn0] at n1 n32 ⊢
    obtain ⟨hG0, hb0⟩ := new_dgood (N := 2) (n := n) (a := 0) (b := 1) (by decide) ⟨n1, n32⟩ (by decide) (by decide) (by decide)
    refine y (ev_assign rfl) rfl ?_
    refine ynil' (kthn (hK4 _ _ ?_))
    clear hK4
    refine cseq ?_; intro K5 hK5
    refine creg ?_
    refine ycall (secNew (n := 2) (by omega)) rfl Try.call12 (by repeat first | exact .nil | exact .z | apply Pk.s | apply Tk.cons) rfl ?_
    rintro v L' ⟨q20, rfl, rfl⟩
    refine y (ev_assign rfl) rfl ?_
    refine ynil' (kthn (hK5 _ _ ?_))
    clear hK5
    refine cseq ?_; intro K6 hK6
    refine cseq ?_; intro K7 hK7
    refine creg ?_
    refine y (ev_move rfl) rfl ?_
    skip
    · skip
      refine y (ev_eqlPnil rfl rfl Try.underlying24) rfl ?_
      refine ynil' (kthn (hK7 _ _ ?_))
      clear hK7
      refine ccond rfl (fun h13 => ?_) (fun h13 => ?_)
      · (try simp only [decide_eq_true_eq, beq_iff_eq, beq_eq_false_iff_ne, decide_eq_decide, decide_eq_false_iff_not, Bool.not_eq_true', Bool.not_eq_false', Bool.not_eq_true, Bool.not_eq_false, Bool.not_not, ne_eq, Option.isNone_some, Option.isSome_some, Option.isNone_none, Option.isSome_none] at h13)
        refine cseq ?_; intro K8 hK8
        refine creg ?_
        refine y (ev_assign rfl) rfl ?_
        refine ynil' (kthn (hK8 _ _ ?_))
        clear hK8
        refine cret (kthr ?_)
        first
          | (exfalso; omega; done)
          | (refine kretv Try.results5 rfl (L1 := R) (by repeat first | exact .refl | exact .nil | exact .z | apply Pk.s | refine Ge.e ?_ | apply Ge.pick | apply Ge.drop) ?_
             exact ⟨_, ⟨by first | rfl | (exfalso; simp_all; done), rfl⟩, by first | rfl | (exfalso; simp_all; done)⟩)
      · (try simp only [decide_eq_true_eq, beq_iff_eq, beq_eq_false_iff_ne, decide_eq_decide, decide_eq_false_iff_not, Bool.not_eq_true', Bool.not_eq_false', Bool.not_eq_true, Bool.not_eq_false, Bool.not_not, ne_eq, Option.isNone_some, Option.isSome_some, Option.isNone_none, Option.isSome_none] at h13)
        refine cskip' (kthn (hK6 _ _ ?_))
        clear hK6
        refine cseq ?_; intro K9 hK9
        refine creg ?_
        refine y (ev_move rfl) rfl ?_
        refine y (ev_move rfl) rfl ?_
        refine ycall (gDOpen hG0 rfl) rfl Try.call13 (by repeat first | exact .nil | exact .z | apply Pk.s | apply Tk.cons) rfl ?_
        rintro v L' ⟨l26, c26, rfl, rfl⟩
        refine y (ev_move rfl) rfl ?_
        refine y (ev_extract rfl rfl) rfl ?_
        refine y (ev_extract rfl rfl) rfl ?_
        refine y (ev_assign rfl) rfl ?_
        refine y (ev_assign rfl) rfl ?_
        refine ynil' (kthn (hK9 _ _ ?_))
        clear hK9
        refine cseq ?_; intro K10 hK10
        refine cseq ?_; intro K11 hK11
        refine creg ?_
        refine y (ev_move rfl) rfl ?_
        skip
        · skip
          refine y (ev_eqlPnil rfl rfl Try.underlying26) rfl ?_
          refine ynil' (kthn (hK11 _ _ ?_))
          clear hK11
          refine ccond rfl (fun h25 => ?_) (fun h25 => ?_)
          · (try simp only [decide_eq_true_eq, beq_iff_eq, beq_eq_false_iff_ne, decide_eq_decide, decide_eq_false_iff_not, Bool.not_eq_true', Bool.not_eq_false', Bool.not_eq_true, Bool.not_eq_false, Bool.not_not, ne_eq, Option.isNone_some, Option.isSome_some, Option.isNone_none, Option.isSome_none] at h25)
            refine cseq ?_; intro K12 hK12
            refine creg ?_
            refine y (ev_assign rfl) rfl ?_
            refine ynil' (kthn (hK12 _ _ ?_))
            clear hK12
            refine cret (kthr ?_)
            first
              | (exfalso; omega; done)
              | (refine kretv Try.results5 rfl (L1 := R) (by repeat first | exact .refl | exact .nil | exact .z | apply Pk.s | refine Ge.e ?_ | apply Ge.pick | apply Ge.drop) ?_
                 exact ⟨_, ⟨by first | rfl | (exfalso; simp_all; done), rfl⟩, by first | rfl | (exfalso; simp_all; done)⟩)
          · (try simp only [decide_eq_true_eq, beq_iff_eq, beq_eq_false_iff_ne, decide_eq_decide, decide_eq_false_iff_not, Bool.not_eq_true', Bool.not_eq_false', Bool.not_eq_true, Bool.not_eq_false, Bool.not_not, ne_eq, Option.isNone_some, Option.isSome_some, Option.isNone_none, Option.isSome_none] at h25)
            refine cskip' (kthn (hK10 _ _ ?_))
            clear hK10
            refine cseq ?_; intro K13 hK13
            refine cseq ?_; intro K14 hK14
            refine creg ?_
            refine y (ev_assign rfl) rfl ?_
            refine ynil' (kthn (hK14 _ _ ?_))
            clear hK14
            have hJ1 : ∀ x : Nat × Dev, ((DGood 0 1 n x.2 2 x.1 ∧ x.1 ≤ bs.length ∧ x.1 ≤ 60) ∧ (True)) → Sk 99 K13 ([(11, i64 x.1), (9, ptr l26), (8, dp q20), (7, i64 n), (1, lv), (2, .int .u8 ov)]) ([drlP l26 c26 (drlO x.2 0 1 n), celP c26 q20 (openC x.2 0 1), dev q20 x.2] ++ R) := by
              rintro ⟨i, D⟩ ⟨hI1, hX1⟩
              refine hK13 _ _ ?_
              obtain ⟨hG, hi1, hi2⟩ := hI1; dsimp only at hG hi1 hi2 ⊢
              skip
              refine cseq ?_; intro K15 hK15
              refine cseq ?_; intro K16 hK16
              refine creg ?_
              refine y (ev_move rfl) rfl ?_
              refine ycall (gDClear (n := n) (N := 2) (k := i) ?dg29 ?dk29) rfl Try.call15 (by repeat first | exact .nil | exact .z | apply Pk.s | apply Tk.cons) rfl ?_
              case dg29 => exact hG
              case dk29 => omega
              rintro v L' ⟨D52, rfl, hG52, hb52, hs52, rfl⟩
              obtain ⟨L, hL⟩ : ∃ L, drlO D52 0 1 n = L := ⟨_, rfl⟩; have hLn : L.n = n := by rw [← hL]; rfl
              have hok := hG52.ok
              have hco : openC D52 0 1 = L.c := by rw [← hL]; rfl
              rw [hL] at hok hb52
              rw [hL, hco]
              skip
              · skip
                refine y (ev_neq rfl rfl) rfl ?_
                refine y (ev_move rfl) rfl ?_
                refine yg1 rfl rfl ?_
                refine y (ev_move rfl) rfl ?_
                refine yg1 rfl rfl ?_
                refine ycall (dBlocks ?dn33 ?db33) rfl Try.call16 (by repeat first | exact .nil | exact .z | apply Pk.s | apply Tk.cons) rfl ?_
                case dn33 => exact hok.n
                case db33 => exact hok.bits
                rintro v L' ⟨s56, rfl, ok56, rfl⟩
                rw [zero_blks hb52] at ok56 ⊢
                refine yg1 rfl rfl ?_
                first
                  | refine y (ev_len rfl Try.underlying32) rfl ?_
                  | refine y (ev_lenSv rfl Try.underlying32 (by assumption)) rfl ?_
                  | refine y (ev_lenV rfl Try.underlying32 (RdV.lenVal (by assumption))) rfl ?_
                  | refine y (ev_lenV rfl Try.underlying32 (RdB.lenVal (by assumption))) rfl ?_
                refine yg1 rfl rfl ?_
                refine y (ev_neq rfl rfl) rfl ?_
                refine y (ev_pick0 rfl rfl) rfl ?_
                refine y (ev_move rfl) rfl ?_
                refine yg1 rfl rfl ?_
                refine y (ev_move rfl) rfl ?_
                refine yg1 rfl rfl ?_
                refine ycall (dRow) rfl Try.call18 (by repeat first | exact .nil | exact .z | apply Pk.s | apply Tk.cons) rfl ?_
                rintro v L' ⟨rfl, rfl⟩
                refine yg1 rfl rfl ?_
                refine ycall (xCount ?xn40 ?xb40) rfl Try.call24 (by repeat first | exact .nil | exact .z | apply Pk.s | apply Tk.cons) rfl ?_
                case xn40 => have := regs_le hok.n; omega
                case xb40 => exact hok.bits
                rintro v L' ⟨rfl, rfl⟩
                rw [(count_zero hok.bits).2 hb52]
                refine yg1 rfl rfl ?_
                refine y (ev_neq rfl rfl) rfl ?_
                refine y (ev_pick0 rfl rfl) rfl ?_
                refine ynil' (kthn (hK16 _ _ ?_))
                clear hK16
                refine ccond0 rfl ?_
                refine cskip' (kthn (hK15 _ _ ?_))
                clear hK15
                refine cseq ?_; intro K17 hK17
                refine creg ?_
                refine y (ev_move rfl) rfl ?_
                refine ycall (secFuse) rfl Try.call22 (by repeat first | exact .nil | exact .z | apply Pk.s | apply Tk.cons) rfl ?_
                rintro v L' ⟨rfl, rfl⟩
                have hokf : L.ok (D52.setFuse 0) := by rw [← hL]; exact hG52.fuse (by decide)
                have hcl : L.clear (D52.setFuse 0) = (0, L, D52.setFuse 0) := by unfold DrlM.clear; rw [if_pos hb52]
                refine ynil' (kthn (hK17 _ _ ?_))
                clear hK17
                refine cseq ?_; intro K18 hK18
                refine cseq ?_; intro K19 hK19
                refine creg ?_
                refine y (ev_move rfl) rfl ?_
                refine ycall (dClear (L := L) hokf) rfl Try.call15 (by repeat first | exact .nil | exact .z | apply Pk.s | apply Tk.cons) rfl ?_
                rintro v L' ⟨rfl, rfl⟩
                rw [hcl]; dsimp only
                skip
                · skip
                  refine y (ev_neq rfl rfl) rfl ?_
                  refine y (ev_move rfl) rfl ?_
                  refine yg1 rfl rfl ?_
                  refine y (ev_move rfl) rfl ?_
                  refine yg1 rfl rfl ?_
                  refine ycall (secDead) rfl Try.call23 (by repeat first | exact .nil | exact .z | apply Pk.s | apply Tk.cons) rfl ?_
                  rintro v L' ⟨rfl, rfl⟩
                  rw [show (D52.setFuse 0).dead = false from hG52.up.live]
                  refine y (ev_pick0 rfl rfl) rfl ?_
                  refine ynil' (kthn (hK19 _ _ ?_))
                  clear hK19
                  refine ccond0 rfl ?_
                  refine cskip' (kthn (hK18 _ _ ?_))
                  clear hK18
                  refine cseq ?_; intro K20 hK20
                  refine creg ?_
                  refine y (ev_move rfl) rfl ?_
                  refine ycall (secFuse) rfl Try.call22 (by repeat first | exact .nil | exact .z | apply Pk.s | apply Tk.cons) rfl ?_
                  rintro v L' ⟨rfl, rfl⟩
                  rw [setFuse_back hG52.up.fuse, ← hco, ← hL]
                  refine ynil' (kthn (hK20 _ _ ?_))
                  clear hK20
                  refine cseq ?_; intro K21 hK21
                  refine creg ?_
                  refine y (ev_move rfl) rfl ?_
                  refine y (ev_conv rfl Try.underlying5 Try.underlying3) rfl ?_
                  obtain ⟨y0, hy0⟩ : ∃ y : Nat, ov = y := ⟨ov.toNat, by omega⟩; subst hy0; rw [wr (by omega) (by omega)]; obtain ⟨z, hz, hzn⟩ := tmodN (x := y0) (n := n) (by omega); have hin : inR n (z : Int) = true := inR_iff.2 ⟨by omega, by omega⟩
                  refine y (ev_move rfl) rfl ?_
                  refine y (ev_rem rfl rfl (by omega)) rfl ?_
                  rw [hz]
                  refine y (ev_assign rfl) rfl ?_
                  refine ynil' (kthn (hK21 _ _ ?_))
                  clear hK21
                  refine cseq ?_; intro K22 hK22
                  refine cseq ?_; intro K23 hK23
                  refine creg ?_
                  refine y (ev_move rfl) rfl ?_
                  refine y (ev_move rfl) rfl ?_
                  refine ycall (gDMark (n := n) (N := 2) (k := i + 1) ?dg61 ?dk61 ?di61 ?dj61) rfl Try.call14 (by repeat first | exact .nil | exact .z | apply Pk.s | apply Tk.cons) rfl ?_
                  case dg61 => exact hG52
                  case dk61 => omega
                  case di61 => omega
                  case dj61 => omega
                  rintro v L' ⟨D83, rfl, hG83, hb83, hs83, rfl⟩
                  rw [if_pos hin]; rw [if_pos hin, hL, hb52] at hb83
                  have hone := has_one (L := drlO D83 0 1 n) (k := (z : Int)) hin hb83
                  have hok2 := hG83.ok
                  have hL2n : (drlO D83 0 1 n).n = n := rfl
                  generalize drlO D83 0 1 n = L2 at *
                  skip
                  · skip
                    refine y (ev_neq rfl rfl) rfl ?_
                    refine ynil' (kthn (hK23 _ _ ?_))
                    clear hK23
                    refine ccond0 rfl ?_
                    refine cskip' (kthn (hK22 _ _ ?_))
                    clear hK22
                    refine cseq ?_; intro K24 hK24
                    refine cseq ?_; intro K25 hK25
                    refine creg ?_
                    refine y (ev_assign rfl) rfl ?_
                    refine ynil' (kthn (hK25 _ _ ?_))
                    clear hK25
                    have hJ2 : ∀ x : Nat, ((x ≤ n) ∧ (x = n)) → Sk 99 K24 ([(13, i64 x), (12, i64 z), (9, ptr l26), (8, dp q20), (7, i64 n)]) ([drlP l26 c26 L2] ++ R) := by
                      rintro k ⟨hI2, hX2⟩
                      refine hK24 _ _ ?_
                      have hk := hI2
                      refine cseq ?_; intro K26 hK26
                      refine creg ?_
                      refine y (ev_assign rfl) rfl ?_
                      refine ynil' (kthn (hK26 _ _ ?_))
                      clear hK26
                      refine cret ?_
                      first
                        | (exfalso; omega; done)
                        | (refine kretv Try.results5 rfl (L1 := R) (by repeat first | exact .refl | exact .nil | exact .z | apply Pk.s | refine Ge.e ?_ | apply Ge.pick | apply Ge.drop) ?_
                           exact ⟨_, ⟨by first | rfl | (exfalso; simp_all; done), rfl⟩, by first | rfl | (exfalso; simp_all; done)⟩)
                    clear hK24
                    refine cblock ?_
                    refine cloop (A := Nat) (fun x => [(13, i64 x), (12, i64 z), (9, ptr l26), (8, dp q20), (7, i64 n)]) (fun x => [drlP l26 c26 L2] ++ R) (fun x => x ≤ n) (fun x => n - x) (0) ?_ (by repeat first | exact sub_nil | refine sub_cons rfl ?_ | refine sub_cons' rfl (by simp) ?_) (by repeat first | exact .refl | exact .nil | exact .z | apply Pk.s | refine Ge.e ?_ | apply Ge.pick | apply Ge.drop) ?_
                    · exact Nat.zero_le _
                    rintro k hI2 KL2 hL2
                    have hI2o := hI2
                    have hk := hI2
                    refine cseq ?_; intro K27 hK27
                    refine cseq ?_; intro K28 hK28
                    refine creg ?_
                    refine y (ev_move rfl) rfl ?_
                    refine y (ev_move rfl) rfl ?_
                    refine y (ev_lss rfl rfl) rfl ?_
                    refine ynil' (kthn (hK28 _ _ ?_))
                    clear hK28
                    refine ccond rfl (fun h68 => ?_) (fun h68 => ?_)
                    · (try simp only [decide_eq_true_eq, beq_iff_eq, beq_eq_false_iff_ne, decide_eq_decide, decide_eq_false_iff_not, Bool.not_eq_true', Bool.not_eq_false', Bool.not_eq_true, Bool.not_eq_false, Bool.not_not, ne_eq, Option.isNone_some, Option.isSome_some, Option.isNone_none, Option.isSome_none] at h68)
                      refine cskip' (kthn (hK27 _ _ ?_))
                      clear hK27
                      refine cseq ?_; intro K29 hK29
                      refine cblock ?_
                      refine cseq ?_; intro K30 hK30
                      refine creg ?_
                      refine y (ev_move rfl) rfl ?_
                      refine y (ev_move rfl) rfl ?_
                      refine ycall (dHas ?dn71 ?db71 ?di71 ?dj71) rfl Try.call20 (by repeat first | exact .nil | exact .z | apply Pk.s | apply Tk.cons) rfl ?_
                      case dn71 => exact hok2.n
                      case db71 => exact hok2.bits
                      case di71 => omega
                      case dj71 => omega
                      rintro v L' ⟨rfl, rfl⟩
                      rw [hone, show inR L2.n (k : Int) = true from inR_iff.2 ⟨by omega, by omega⟩, Bool.true_and]
                      refine y (ev_move rfl) rfl ?_
                      refine y (ev_quo rfl rfl (by decide)) rfl ?_
                      rw [Int.tdiv_eq_ediv_of_nonneg (by omega), wr (by omega) (by omega)]
                      refine y (ev_move rfl) rfl ?_
                      refine y (ev_quo rfl rfl (by decide)) rfl ?_
                      rw [Int.tdiv_eq_ediv_of_nonneg (by omega), wr (by omega) (by omega)]
                      refine y (ev_eql rfl rfl) rfl ?_
                      skip
                      · skip
                        refine y (ev_neqB rfl rfl Try.underlying4) rfl ?_
                        rw [show (!(decide ((k : Int) / 4 = (z : Int) / 4) == decide ((k : Int) / 4 = (z : Int) / 4))) = false by simp]
                        refine ynil' (kthn (hK30 _ _ ?_))
                        clear hK30
                        refine ccond0 rfl ?_
                        refine cskip' (kbn (kthn (hK29 _ _ ?_)))
                        clear hK29
                        refine creg ?_
                        refine y (ev_move rfl) rfl ?_
                        refine y (ev_add rfl rfl) rfl ?_
                        rw [show IntKind.i64.wrap ((k:Int) + 1) = ((k+1 : Nat) : Int) by rw [wr (by omega) (by omega)]; rfl]
                        refine y (ev_assign rfl) rfl ?_
                        refine ynil' (kthn ?_)
                        exact hL2 (k + 1) (by omega) (by omega) _ _ (by repeat first | exact sub_nil | refine sub_cons rfl ?_ | refine sub_cons' rfl (by simp) ?_) (by repeat first | exact .refl | exact .nil | exact .z | apply Pk.s | refine Ge.e ?_ | apply Ge.pick | apply Ge.drop)
                    · (try simp only [decide_eq_true_eq, beq_iff_eq, beq_eq_false_iff_ne, decide_eq_decide, decide_eq_false_iff_not, Bool.not_eq_true', Bool.not_eq_false', Bool.not_eq_true, Bool.not_eq_false, Bool.not_not, ne_eq, Option.isNone_some, Option.isSome_some, Option.isNone_none, Option.isSome_none] at h68)
                      refine cexit (kthx (kthx (kbx (kthn ?_))))
                      exact ksub (by repeat first | exact sub_nil | refine sub_cons rfl ?_ | refine sub_cons' rfl (by simp) ?_) (by repeat first | exact .refl | exact .nil | exact .z | apply Pk.s | refine Ge.e ?_ | apply Ge.pick | apply Ge.drop) (hJ2 k ⟨hI2o, by omega⟩)
            clear hK13
            refine cblock ?_
            refine cloop (A := Nat × Dev) (fun x => [(11, i64 x.1), (9, ptr l26), (8, dp q20), (7, i64 n), (1, lv), (2, .int .u8 ov)]) (fun x => [drlP l26 c26 (drlO x.2 0 1 n), celP c26 q20 (openC x.2 0 1), dev q20 x.2] ++ R) (fun x => DGood 0 1 n x.2 2 x.1 ∧ x.1 ≤ bs.length ∧ x.1 ≤ 60) (fun x => 60 - x.1) ((0, Dev.new 2)) ?_ (by repeat first | exact sub_nil | refine sub_cons rfl ?_ | refine sub_cons' rfl (by simp) ?_) (by repeat first | exact .refl | exact .nil | exact .z | apply Pk.s | refine Ge.e ?_ | apply Ge.pick | apply Ge.drop) ?_
            · exact ⟨hG0, Nat.zero_le _, Nat.zero_le _⟩
            rintro ⟨i, D⟩ hI1 KL1 hL1
            have hI1o := hI1
            obtain ⟨hG, hi1, hi2⟩ := hI1; dsimp only at hG hi1 hi2 ⊢
            refine cseq ?_; intro K31 hK31
            refine cseq ?_; intro K32 hK32
            refine creg ?_
            refine y (ev_move rfl) rfl ?_
            refine y (ev_move rfl) rfl ?_
            first
              | refine y (ev_len rfl Try.underlying22) rfl ?_
              | refine y (ev_lenSv rfl Try.underlying22 (by assumption)) rfl ?_
              | refine y (ev_lenV rfl Try.underlying22 (RdV.lenVal (by assumption))) rfl ?_
              | refine y (ev_lenV rfl Try.underlying22 (RdB.lenVal (by assumption))) rfl ?_
            refine y (ev_lss rfl rfl) rfl ?_
            refine y (ev_move rfl) rfl ?_
            refine ysplit 35 rfl (fun h86 => ?_) (fun h86 => ?_)
            · (try simp only [decide_eq_true_eq, beq_iff_eq, beq_eq_false_iff_ne, decide_eq_decide, decide_eq_false_iff_not, Bool.not_eq_true', Bool.not_eq_false', Bool.not_eq_true, Bool.not_eq_false, Bool.not_not, ne_eq, Option.isNone_some, Option.isSome_some, Option.isNone_none, Option.isSome_none] at h86)
              refine yg1 rfl rfl ?_
              refine y (ev_move rfl) rfl ?_
              refine yg1 rfl rfl ?_
              refine y (ev_lss rfl rfl) rfl ?_
              refine y (ev_pick1 rfl rfl) rfl ?_
              refine ynil' (kthn (hK32 _ _ ?_))
              clear hK32
              refine ccond rfl (fun h90 => ?_) (fun h90 => ?_)
              · (try simp only [decide_eq_true_eq, beq_iff_eq, beq_eq_false_iff_ne, decide_eq_decide, decide_eq_false_iff_not, Bool.not_eq_true', Bool.not_eq_false', Bool.not_eq_true, Bool.not_eq_false, Bool.not_not, ne_eq, Option.isNone_some, Option.isSome_some, Option.isNone_none, Option.isSome_none] at h90)
                refine cskip' (kthn (hK31 _ _ ?_))
                clear hK31
                refine cseq ?_; intro K33 hK33
                refine cblock ?_
                refine cseq ?_; intro K34 hK34
                refine creg ?_
                refine y (ev_move rfl) rfl ?_
                refine y (ev_move rfl) rfl ?_
                refine y (ev_move rfl) rfl ?_
                refine y (ev_ixV hl rfl rfl Try.underlying22 Try.sizeOf5 (by omega) (by omega)) rfl ?_
                refine y (ev_loadV i hl (by repeat first | exact .refl | exact .nil | exact .z | apply Pk.s | refine Ge.e ?_ | apply Ge.pick | apply Ge.drop) rfl Try.isAgg5 (by simp) (bytesV_get (by omega))) rfl ?_
                obtain ⟨x, hx⟩ : ∃ x, bs[i]?.getD 0 = x := ⟨_, rfl⟩; rw [hx]; have hx8 := x.toNat_lt; obtain ⟨z, hz, hzn⟩ := tmodN (x := x.toNat) (n := n) (by omega); have hin : inR n (z : Int) = true := inR_iff.2 ⟨by omega, by omega⟩
                refine y (ev_conv rfl Try.underlying5 Try.underlying3) rfl ?_
                rw [wr (by omega) (by omega)]
                refine y (ev_move rfl) rfl ?_
                refine y (ev_rem rfl rfl (by omega)) rfl ?_
                rw [hz]
                refine ycall (gDMark (n := n) (N := 2) (k := i) ?dg99 ?dk99 ?di99 ?dj99) rfl Try.call14 (by repeat first | exact .nil | exact .z | apply Pk.s | apply Tk.cons) rfl ?_
                case dg99 => exact hG
                case dk99 => omega
                case di99 => omega
                case dj99 => omega
                rintro v L' ⟨D49, rfl, hG49, hb49, hs49, rfl⟩
                rw [if_pos hin]
                skip
                · skip
                  refine y (ev_neq rfl rfl) rfl ?_
                  refine ynil' (kthn (hK34 _ _ ?_))
                  clear hK34
                  refine ccond0 rfl ?_
                  refine cskip' (kbn (kthn (hK33 _ _ ?_)))
                  clear hK33
                  refine creg ?_
                  refine y (ev_move rfl) rfl ?_
                  refine y (ev_add rfl rfl) rfl ?_
                  rw [show IntKind.i64.wrap ((i:Int) + 1) = ((i+1 : Nat) : Int) by rw [wr (by omega) (by omega)]; rfl]
                  refine y (ev_assign rfl) rfl ?_
                  refine ynil' (kthn ?_)
                  exact hL1 ((i + 1, D49)) (⟨hG49, by dsimp only; omega, by dsimp only; omega⟩) (by dsimp only; omega) _ _ (by repeat first | exact sub_nil | refine sub_cons rfl ?_ | refine sub_cons' rfl (by simp) ?_) (by repeat first | exact .refl | exact .nil | exact .z | apply Pk.s | refine Ge.e ?_ | apply Ge.pick | apply Ge.drop)
              · (try simp only [decide_eq_true_eq, beq_iff_eq, beq_eq_false_iff_ne, decide_eq_decide, decide_eq_false_iff_not, Bool.not_eq_true', Bool.not_eq_false', Bool.not_eq_true, Bool.not_eq_false, Bool.not_not, ne_eq, Option.isNone_some, Option.isSome_some, Option.isNone_none, Option.isSome_none] at h90)
                refine cexit (kthx (kthx (kbx (kthn ?_))))
                exact ksub (by repeat first | exact sub_nil | refine sub_cons rfl ?_ | refine sub_cons' rfl (by simp) ?_) (by repeat first | exact .refl | exact .nil | exact .z | apply Pk.s | refine Ge.e ?_ | apply Ge.pick | apply Ge.drop) (hJ1 ⟨i, D⟩ ⟨hI1o, by first | trivial | omega⟩)
            · (try simp only [decide_eq_true_eq, beq_iff_eq, beq_eq_false_iff_ne, decide_eq_decide, decide_eq_false_iff_not, Bool.not_eq_true', Bool.not_eq_false', Bool.not_eq_true, Bool.not_eq_false, Bool.not_not, ne_eq, Option.isNone_some, Option.isSome_some, Option.isNone_none, Option.isSome_none] at h86)
              refine yg0 rfl rfl rfl rfl ?_
              refine yg0 rfl rfl rfl rfl ?_
              refine y (ev_pick0 rfl rfl) rfl ?_
              refine ynil' (kthn (hK32 _ _ ?_))
              clear hK32
              refine ccond0 rfl ?_
              refine cexit (kthx (kthx (kbx (kthn ?_))))
              exact ksub (by repeat first | exact sub_nil | refine sub_cons rfl ?_ | refine sub_cons' rfl (by simp) ?_) (by repeat first | exact .refl | exact .nil | exact .z | apply Pk.s | refine Ge.e ?_ | apply Ge.pick | apply Ge.drop) (hJ1 ⟨i, D⟩ ⟨hI1o, by first | trivial | omega⟩)
end W
end Go.Proofs
