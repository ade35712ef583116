/- A part of the proof: contracts and plain lemmas, each without conditions beyond those that it names. -/
import Derived.Test.YtnfbhgalkcmbdaaGreatT10
import Derived.Test.YtnfbhgalkcmbdaaGreatGC
import Derived.Test.YtnfbhgalkcmbdaaGreatGK
import Derived.Test.YtnfbhgalkcmbdaaGreatGL
set_option linter.unusedVariables false
set_option linter.unusedSimpArgs false
set_option linter.constructorNameAsVariable false
namespace Go.Proofs
open Go Go.Sl
namespace W
set_option linter.unusedVariables false
abbrev rowV (n b : Nat) : Value := .agg #[i64 n, u64 b]
theorem u64_one (n : Nat) (b : Nat) : ∀ u ∈ [i64 (n : Int), u64 b], u.oneCell' = true := by
  intro u hu
  simp at hu
  rcases hu with rfl | rfl <;> rfl
theorem xNew [Env] {R : List Seg} {n : Nat} (h : n ≤ 64) : Con Tryz.prog 33 [i64 n] [] R (Is (rowV n 0) []) := by
  refine con_enter Tryz.func33 Tryz.ntmps33 rfl rfl ?_
  refine cseq ?_; intro K1 hK1
  refine creg ?_
  refine ya (ac_alloc Tryz.zeroValue54 rfl) rfl ?_
  rintro v L' ⟨b2, rfl, rfl⟩
  refine ynil' (kthn (hK1 _ _ ?_))
  clear hK1
  refine cseq ?_; intro K2 hK2
  refine cseq ?_; intro K3 hK3
  refine creg ?_
  refine y (ev_move rfl) rfl ?_
  refine y (ev_lss rfl rfl) rfl ?_
  refine y (ev_move rfl) rfl ?_
  refine ysplit 5 rfl (fun h5 => ?_) (fun h5 => ?_)
  ·(try simp only [sH] at h5)
   refine yg0 rfl rfl rfl rfl ?_
   refine yg0 rfl rfl rfl rfl ?_
   refine y (ev_pick1 rfl rfl) rfl ?_
   refine ynil' (kthn (hK3 _ _ ?_))
   clear hK3
   refine ccond1 rfl ?_
   refine creg ?_
   exfalso; omega
  ·(try simp only [sH] at h5)
   refine yg1 rfl rfl ?_
   refine y (ev_move rfl) rfl ?_
   refine yg1 rfl rfl ?_
   refine y (ev_gtr rfl rfl) rfl ?_
   refine y (ev_pick0 rfl rfl) rfl ?_
   refine ynil' (kthn (hK3 _ _ ?_))
   clear hK3
   refine ccond rfl (fun h10 => ?_) (fun h10 => ?_)
   ·(try simp only [sH] at h10)
    refine creg ?_
    exfalso; omega
   ·(try simp only [sH] at h10)
    refine cskip' (kthn (hK2 _ _ ?_))
    clear hK2
    refine cseq ?_; intro K4 hK4
    refine creg ?_
    refine y (ev_move rfl) rfl ?_
    refine y (ev_build (vs := [i64 n, u64 0]) (zs := _) rfl Tryz.underlying54 Tryz.zeroValue54 rfl (.cons Tryz.sizeOf3 (.cons Tryz.sizeOf52 .nil)) ⟨⟨_, _, rfl, (by first | rfl | simp), (by first | decide | simp)⟩, trivial⟩ (by dsimp [fillL, splice, vcells] <;> rfl)) rfl ?_
    refine ya0 (ac_storeAll rfl rfl (u64_one _ _) Tryz.sizeOf54 (by repeat first | exact .z | apply Rp.s) (by rfl) (by rfl)) ?_
    rintro v L' ⟨rfl, rfl⟩
    refine ynil' (kthn (hK4 _ _ ?_))
    clear hK4
    refine cret ?_
    first
      | (exfalso; omega; done)
      | (refine kretc Tryz.results33 rfl Tryz.isAgg54 Tryz.sizeOf54 (by repeat first | exact .z | apply In.s) (rfl) (L1 := [] ++ R) (by repeat first | exact .refl | exact .nil | exact .z | apply Pk.s | refine Ge.e ?_ | apply Ge.pick | apply Ge.drop) ?_
         exact ⟨_, ⟨rfl, rfl⟩, rfl⟩)
theorem xLen [Env] {R : List Seg} {n b : Nat} : Con Tryz.prog 31 [rowV n b] [] R (Is (i64 n) []) := by
  refine con_enter Tryz.func31 Tryz.ntmps31 rfl rfl ?_
  refine cseq ?_; intro K1 hK1
  refine creg ?_
  refine ya (ac_box (vs := [i64 n, u64 b]) rfl rfl) rfl ?_
  rintro v L' ⟨b1, rfl, rfl⟩
  refine y (ev_assign rfl) rfl ?_
  refine ynil' (kthn (hK1 _ _ ?_))
  clear hK1
  refine cseq ?_; intro K2 hK2
  refine creg ?_
  refine y (ev_fieldAddr 0 rfl Tryz.underlying54 rfl Tryz.sizeOf3) rfl ?_
  refine y (ev_load rfl Tryz.isAgg3 (by repeat first | exact .z | apply In.s) rfl) rfl ?_
  refine y (ev_assign rfl) rfl ?_
  refine ynil' (kthn (hK2 _ _ ?_))
  clear hK2
  refine cret ?_
  first
    | (exfalso; omega; done)
    | (refine kretv Tryz.results31 rfl (L1 := R) (by repeat first | exact .refl | exact .nil | exact .z | apply Pk.s | refine Ge.e ?_ | apply Ge.pick | apply Ge.drop) ?_
       exact ⟨_, ⟨by first | rfl | (simp [*]; done) | (simp [*]; omega) | simp_all, rfl⟩, by first | rfl | (simp [*]; done) | (simp [*]; omega) | simp_all⟩)
theorem xIn [Env] {R : List Seg} {n b : Nat} {i : Int} : Con Tryz.prog 58 [rowV n b, i64 i] [] R (Is (.bool (inR n i)) []) := by
  refine con_enter Tryz.func58 Tryz.ntmps58 rfl rfl ?_
  refine cseq ?_; intro K1 hK1
  refine creg ?_
  refine ya (ac_box (vs := [i64 n, u64 b]) rfl rfl) rfl ?_
  rintro v L' ⟨b2, rfl, rfl⟩
  refine y (ev_assign rfl) rfl ?_
  refine ynil' (kthn (hK1 _ _ ?_))
  clear hK1
  refine cseq ?_; intro K2 hK2
  refine creg ?_
  refine y (ev_move rfl) rfl ?_
  refine y (ev_geq rfl rfl) rfl ?_
  refine y (ev_move rfl) rfl ?_
  refine ysplit 7 rfl (fun h24 => ?_) (fun h24 => ?_)
  ·(try simp only [sH] at h24)
   refine yg1 rfl rfl ?_
   refine y (ev_move rfl) rfl ?_
   refine yg1 rfl rfl ?_
   refine y (ev_fieldAddr 0 rfl Tryz.underlying54 rfl Tryz.sizeOf3) rfl ?_
   refine yg1 rfl rfl ?_
   refine y (ev_load rfl Tryz.isAgg3 (by repeat first | exact .z | apply In.s) rfl) rfl ?_
   refine yg1 rfl rfl ?_
   refine y (ev_lss rfl rfl) rfl ?_
   refine y (ev_pick1 rfl rfl) rfl ?_
   refine y (ev_assign rfl) rfl ?_
   refine ynil' (kthn (hK2 _ _ ?_))
   clear hK2
   refine cret ?_
   first
     | (exfalso; omega; done)
     | (refine kretv Tryz.results58 rfl (L1 := [] ++ R) (by repeat first | exact .refl | exact .nil | exact .z | apply Pk.s | refine Ge.e ?_ | apply Ge.pick | apply Ge.drop) ?_
        exact ⟨_, ⟨by unfold inR; first | (rw [decide_eq_true (show 0 ≤ i by omega)]; rfl) | (rw [decide_eq_false (show ¬ 0 ≤ i by omega)]; rfl), rfl⟩, rfl⟩)
  ·(try simp only [sH] at h24)
   refine yg0 rfl rfl rfl rfl ?_
   refine yg0 rfl rfl rfl rfl ?_
   refine yg0 rfl rfl rfl rfl ?_
   refine yg0 rfl rfl rfl rfl ?_
   refine y (ev_pick0 rfl rfl) rfl ?_
   refine y (ev_assign rfl) rfl ?_
   refine ynil' (kthn (hK2 _ _ ?_))
   clear hK2
   refine cret ?_
   first
     | (exfalso; omega; done)
     | (refine kretv Tryz.results58 rfl (L1 := [] ++ R) (by repeat first | exact .refl | exact .nil | exact .z | apply Pk.s | refine Ge.e ?_ | apply Ge.pick | apply Ge.drop) ?_
        exact ⟨_, ⟨by unfold inR; first | (rw [decide_eq_true (show 0 ≤ i by omega)]; rfl) | (rw [decide_eq_false (show ¬ 0 ≤ i by omega)]; rfl), rfl⟩, rfl⟩)
theorem bit_and {b i : Nat} (hb : b < 18446744073709551616) : decide (bAnd .u64 ((b / 2 ^ i : Nat) : Int) 1 = 1) = b.testBit i := by
  have : b / 2 ^ i ≤ b := Nat.div_le_self _ _
  rw [and1_64 (by omega), testBit_mod]
  rw [decide_eq_decide]; omega
theorem xHas [Env] {R : List Seg} {n b : Nat} {i : Int} (hn : n ≤ 64) (hb : b < 2 ^ n) : Con Tryz.prog 51 [rowV n b, i64 i] [] R (Is (.bool (hasR n b i)) []) := by
  have h64 := pow_le64 hn
  refine con_enter Tryz.func51 Tryz.ntmps51 rfl rfl ?_
  refine cseq ?_; intro K1 hK1
  refine creg ?_
  refine ya (ac_box (vs := [i64 n, u64 b]) rfl rfl) rfl ?_
  rintro v L' ⟨b2, rfl, rfl⟩
  refine y (ev_assign rfl) rfl ?_
  refine ynil' (kthn (hK1 _ _ ?_))
  clear hK1
  refine cseq ?_; intro K2 hK2
  refine creg ?_
  refine y (ev_loadN (u := [i64 n, u64 b]) rfl Tryz.isAgg54 Tryz.sizeOf54 (by repeat first | exact .z | apply In.s) rfl rfl) rfl ?_
  refine y (ev_move rfl) rfl ?_
  refine ycall (xIn) rfl Tryz.call58 (by repeat first | exact .nil | exact .z | apply Pk.s | apply Tk.cons) rfl ?_
  rintro v L' ⟨rfl, rfl⟩
  refine y (ev_move rfl) rfl ?_
  refine ysplit 8 rfl (fun h39 => ?_) (fun h39 => ?_)
  ·(try simp only [sH] at h39)
   obtain ⟨hi0, hi1⟩ := inR_iff.1 h39
   obtain ⟨j, rfl⟩ : ∃ j : Nat, i = j := ⟨i.toNat, by omega⟩
   have hh : hasR n b j = b.testBit j := by unfold hasR; rw [h39, Bool.true_and, Int.toNat_natCast]
   refine yg1 rfl rfl ?_
   refine y (ev_fieldAddr 1 rfl Tryz.underlying54 rfl Tryz.sizeOf52) rfl ?_
   refine yg1 rfl rfl ?_
   refine y (ev_load rfl Tryz.isAgg52 (by repeat first | exact .z | apply In.s) rfl) rfl ?_
   refine yg1 rfl rfl ?_
   refine y (ev_move rfl) rfl ?_
   refine yg1 rfl rfl ?_
   refine y (ev_shr rfl rfl (by first | decide | omega)) rfl ?_
   rw [shr_u64 (by omega)]
   refine yg1 rfl rfl ?_
   refine y (ev_and rfl rfl) rfl ?_
   refine yg1 rfl rfl ?_
   refine y (ev_eql rfl rfl) rfl ?_
   rw [bit_and (by omega)]
   refine y (ev_pick1 rfl rfl) rfl ?_
   refine y (ev_assign rfl) rfl ?_
   refine ynil' (kthn (hK2 _ _ ?_))
   clear hK2
   refine cret ?_
   first
     | (exfalso; omega; done)
     | (refine kretv Tryz.results51 rfl (L1 := [] ++ R) (by repeat first | exact .refl | exact .nil | exact .z | apply Pk.s | refine Ge.e ?_ | apply Ge.pick | apply Ge.drop) ?_
        exact ⟨_, ⟨by rw [hh], rfl⟩, rfl⟩)
  ·(try simp only [sH] at h39)
   have hh : hasR n b i = false := by unfold hasR; rw [h39]; rfl
   refine yg0 rfl rfl rfl rfl ?_
   refine yg0 rfl rfl rfl rfl ?_
   refine yg0 rfl rfl rfl rfl ?_
   refine yg0 rfl rfl rfl rfl ?_
   refine yg0 rfl rfl rfl rfl ?_
   refine yg0 rfl rfl rfl rfl ?_
   refine y (ev_pick0 rfl rfl) rfl ?_
   refine y (ev_assign rfl) rfl ?_
   refine ynil' (kthn (hK2 _ _ ?_))
   clear hK2
   refine cret ?_
   first
     | (exfalso; omega; done)
     | (refine kretv Tryz.results51 rfl (L1 := [] ++ R) (by repeat first | exact .refl | exact .nil | exact .z | apply Pk.s | refine Ge.e ?_ | apply Ge.pick | apply Ge.drop) ?_
        exact ⟨_, ⟨by rw [hh], rfl⟩, rfl⟩)
theorem xPut [Env] {R : List Seg} {n b : Nat} {i : Int} (hn : n ≤ 64) (hb : b < 2 ^ n) : Con Tryz.prog 40 [rowV n b, i64 i] [] R (Is (if inR n i = true then .tuple #[rowV n (putR b i), i64 0] else .tuple #[rowV 0 0, i64 2]) []) := by
  have h64 := pow_le64 hn
  refine con_enter Tryz.func40 Tryz.ntmps40 rfl rfl ?_
  refine cseq ?_; intro K1 hK1
  refine creg ?_
  refine ya (ac_box (vs := [i64 n, u64 b]) rfl rfl) rfl ?_
  rintro v L' ⟨b2, rfl, rfl⟩
  refine ya (ac_alloc Tryz.zeroValue54 rfl) rfl ?_
  rintro v L' ⟨b4, rfl, rfl⟩
  refine y (ev_assign rfl) rfl ?_
  refine ynil' (kthn (hK1 _ _ ?_))
  clear hK1
  refine cseq ?_; intro K2 hK2
  refine cseq ?_; intro K3 hK3
  refine creg ?_
  refine y (ev_loadN (u := [i64 n, u64 b]) rfl Tryz.isAgg54 Tryz.sizeOf54 (by repeat first | exact .z | apply In.s) rfl rfl) rfl ?_
  refine y (ev_move rfl) rfl ?_
  refine ycall (xIn) rfl Tryz.call58 (by repeat first | exact .nil | exact .z | apply Pk.s | apply Tk.cons) rfl ?_
  rintro v L' ⟨rfl, rfl⟩
  refine y (ev_not rfl) rfl ?_
  refine ynil' (kthn (hK3 _ _ ?_))
  clear hK3
  refine ccond rfl (fun h57 => ?_) (fun h57 => ?_)
  ·(try simp only [sH] at h57)
   have hin : inR n i = false := by simpa using h57
   refine cseq ?_; intro K4 hK4
   refine creg ?_
   refine y (ev_build (vs := [i64 (0 : Nat), u64 0]) (zs := _) rfl Tryz.underlying54 Tryz.zeroValue54 rfl (.cons Tryz.sizeOf3 (.cons Tryz.sizeOf52 .nil)) trivial (by dsimp [fillL, splice, vcells] <;> rfl)) rfl ?_
   refine ya0 (ac_storeAll rfl rfl (u64_one _ _) Tryz.sizeOf54 (by repeat first | exact .z | apply Rp.s) (by rfl) (by rfl)) ?_
   rintro v L' ⟨rfl, rfl⟩
   refine y (ev_assign rfl) rfl ?_
   refine ynil' (kthn (hK4 _ _ ?_))
   clear hK4
   refine cret (kthr ?_)
   first
     | (exfalso; omega; done)
     | (refine kretct Tryz.results40 rfl rfl Tryz.isAgg54 Tryz.sizeOf54 (by repeat first | exact .z | apply In.s) (rfl) (L1 := [] ++ R) (by repeat first | exact .refl | exact .nil | exact .z | apply Pk.s | refine Ge.e ?_ | apply Ge.pick | apply Ge.drop) ?_
        first | (rw [if_pos hin]; exact ⟨_, ⟨rfl, rfl⟩, rfl⟩) | (rw [if_neg (by rw [hin]; decide)]; exact ⟨_, ⟨rfl, rfl⟩, rfl⟩))
  ·(try simp only [sH] at h57)
   have hin : inR n i = true := by simpa using h57
   obtain ⟨hi0, hi1⟩ := inR_iff.1 hin
   obtain ⟨j, rfl⟩ : ∃ j : Nat, i = j := ⟨i.toNat, by omega⟩
   have hj2 : 2 ^ j < 18446744073709551616 := by have : 2 ^ j < 2 ^ 64 := Nat.pow_lt_pow_right (by omega) (by omega); exact this
   refine cskip' (kthn (hK2 _ _ ?_))
   clear hK2
   refine cseq ?_; intro K5 hK5
   refine cdraw 6 [(0, true), (1, true), (2, true), (3, true), (4, true), (5, true)] (_) Tryz.mixed (by kernel_rfl) .refl ?_
   refine hr rfl (ev_fieldAddr 1 rfl Tryz.underlying54 rfl Tryz.sizeOf52) rfl ?_
   refine hr rfl (ev_load rfl Tryz.isAgg52 (by repeat first | exact .z | apply In.s) rfl) rfl ?_
   refine hr rfl (ev_move rfl) rfl ?_
   refine hr rfl (ev_shl rfl rfl (by first | decide | omega)) rfl ?_
   rw [shl1 (by omega)]
   refine hr rfl (ev_or rfl rfl) rfl ?_
   rw [bOr_u rfl (show b < 2 ^ IntKind.u64.bits by show b < 18446744073709551616; omega) (show 2 ^ j < 2 ^ IntKind.u64.bits from hj2), show ((b ||| 2 ^ j : Nat) : Int) = ((putR b j : Nat) : Int) by unfold putR; rw [Int.toNat_natCast]]
   refine hr rfl (ev_fieldAddr 1 rfl Tryz.underlying54 rfl Tryz.sizeOf52) rfl ?_
   refine hnil ?_
   refine ya0 (ac_store rfl rfl (by first | rfl | exact svVal_one _ _ | assumption) Tryz.sizeOf52 (by repeat first | exact .z | apply Rp.s) rfl rfl) ?_
   rintro v L' ⟨rfl, rfl⟩
   refine hnoP' (kthn (hK5 _ _ ?_))
   clear hK5
   refine cseq ?_; intro K6 hK6
   refine creg ?_
   refine y (ev_loadN (u := [i64 n, u64 (putR b j)]) rfl Tryz.isAgg54 Tryz.sizeOf54 (by repeat first | exact .z | apply In.s) rfl rfl) rfl ?_
   refine ya0 (ac_storeAll rfl rfl (u64_one _ _) Tryz.sizeOf54 (by repeat first | exact .z | apply Rp.s) (by rfl) (by rfl)) ?_
   rintro v L' ⟨rfl, rfl⟩
   refine y (ev_assign rfl) rfl ?_
   refine ynil' (kthn (hK6 _ _ ?_))
   clear hK6
   refine cret ?_
   first
     | (exfalso; omega; done)
     | (refine kretct Tryz.results40 rfl rfl Tryz.isAgg54 Tryz.sizeOf54 (by repeat first | exact .z | apply In.s) (rfl) (L1 := [] ++ R) (by repeat first | exact .refl | exact .nil | exact .z | apply Pk.s | refine Ge.e ?_ | apply Ge.pick | apply Ge.drop) ?_
        first | (rw [if_pos hin]; exact ⟨_, ⟨rfl, rfl⟩, rfl⟩) | (rw [if_neg (by rw [hin]; decide)]; exact ⟨_, ⟨rfl, rfl⟩, rfl⟩))
theorem xAll [Env] {R : List Seg} {n b : Nat} (hn : n ≤ 64) (hb : b < 2 ^ n) : Con Tryz.prog 61 [rowV n b] [] R (KSv 3 (allTo b n).length 1 (intsV (allTo b n)) []) := by
  refine con_enter Tryz.func61 Tryz.ntmps61 rfl rfl ?_
  refine cseq ?_; intro K1 hK1
  refine creg ?_
  refine ya (ac_box (vs := [i64 n, u64 b]) rfl rfl) rfl ?_
  rintro v L' ⟨b1, rfl, rfl⟩
  refine y (ev_assign rfl) rfl ?_
  refine ynil' (kthn (hK1 _ _ ?_))
  clear hK1
  refine cseq ?_; intro K2 hK2
  refine creg ?_
  refine y (ev_assign rfl) rfl ?_
  refine ynil' (kthn (hK2 _ _ ?_))
  clear hK2
  refine cseq ?_; intro K3 hK3
  refine cseq ?_; intro K4 hK4
  refine creg ?_
  refine yreP (L' := [sc b1 [i64 n, u64 b] 54, svSeg none 3 (intsV (allTo b 0))] ++ R) (by simp [svSeg]) ?_
  refine y (ev_fieldAddr 0 rfl Tryz.underlying54 rfl Tryz.sizeOf3) rfl ?_
  refine y (ev_load rfl Tryz.isAgg3 (by repeat first | exact .z | apply In.s) rfl) rfl ?_
  refine y (ev_move rfl) rfl ?_
  refine ynil' (kthn (hK4 _ _ ?_))
  clear hK4
  have hJ1 : ∀ x : Nat × Sv, ((x.1 ≤ n ∧ svOk x.2 (allTo b x.1).length 1 (intsV (allTo b x.1))) ∧ (x.1 = n)) → Sk 19 K3 ([(7, i64 x.1), (6, i64 n), (3, svVal x.2 (allTo b x.1).length), (1, ptr b1)]) ([sc b1 [i64 n, u64 b] 54, svSeg x.2 3 (intsV (allTo b x.1))] ++ R) := by
   rintro ⟨k, s⟩ ⟨hI1, hX1⟩
   refine hK3 _ _ ?_
   obtain ⟨hk, ok⟩ := hI1; dsimp only at hk ok ⊢; have hal := allTo_le b k
   dsimp only at hX1; have hx := hX1.symm; subst hx
   refine cseq ?_; intro K5 hK5
   refine creg ?_
   refine y (ev_move rfl) rfl ?_
   refine y (ev_assign rfl) rfl ?_
   refine ynil' (kthn (hK5 _ _ ?_))
   clear hK5
   refine cret ?_
   first
     | (exfalso; omega; done)
     | (refine kretv Tryz.results61 rfl (L1 := [svSeg s 3 (intsV (allTo b _))] ++ R) (by repeat first | exact .refl | exact .nil | exact .z | apply Pk.s | refine Ge.e ?_ | apply Ge.pick | apply Ge.drop) ?_
        exact ⟨_, ⟨s, rfl, ok, rfl⟩, rfl⟩)
  clear hK3
  refine cblock ?_
  refine cloop (A := Nat × Sv) (fun x => [(7, i64 x.1), (6, i64 n), (3, svVal x.2 (allTo b x.1).length), (1, ptr b1)]) (fun x => [sc b1 [i64 n, u64 b] 54, svSeg x.2 3 (intsV (allTo b x.1))] ++ R) (fun x => x.1 ≤ n ∧ svOk x.2 (allTo b x.1).length 1 (intsV (allTo b x.1))) (fun x => n - x.1) ((0, none)) ?_ (by repeat first | exact sub_nil | refine sub_cons rfl ?_ | refine sub_cons' rfl (by simp) ?_) (by repeat first | exact .refl | exact .nil | exact .z | apply Pk.s | refine Ge.e ?_ | apply Ge.pick | apply Ge.drop) ?_
  · exact ⟨Nat.zero_le _, rfl, rfl⟩
  rintro ⟨k, s⟩ hI1 KL1 hL1
  have hI1o := hI1
  obtain ⟨hk, ok⟩ := hI1; dsimp only at hk ok ⊢; have hal := allTo_le b k
  refine cseq ?_; intro K6 hK6
  refine creg ?_
  refine y (ev_lss rfl rfl) rfl ?_
  refine ynil' (kthn (hK6 _ _ ?_))
  clear hK6
  refine cseq ?_; intro K7 hK7
  refine ccond rfl (fun h80 => ?_) (fun h80 => ?_)
  ·(try simp only [sH] at h80)
   refine cskip' (kthn (hK7 _ _ ?_))
   clear hK7
   refine cseq ?_; intro K8 hK8
   have hJr7 : ∀ x : Sv, (svOk x (allTo b (k + 1)).length 1 (intsV (allTo b (k + 1)))) → Sk 19 K8 ([(7, i64 k), (6, i64 n), (3, svVal x (allTo b (k + 1)).length), (1, ptr b1)]) ([sc b1 [i64 n, u64 b] 54, svSeg x 3 (intsV (allTo b (k + 1)))] ++ R) := by
    rintro s2 hIr7
    refine hK8 _ _ ?_
    have hk7 : k < n := by omega
    refine creg ?_
    refine y (ev_add rfl rfl) rfl ?_
    rw [show IntKind.i64.wrap ((k:Int) + 1) = ((k+1 : Nat) : Int) by rw [wr (by omega) (by omega)]; rfl]
    refine y (ev_move rfl) rfl ?_
    refine ynil' (kthn ?_)
    exact hL1 ((k + 1, s2)) (⟨by dsimp only; omega, hIr7⟩) (by dsimp only; omega) _ _ (by repeat first | exact sub_nil | refine sub_cons rfl ?_ | refine sub_cons' rfl (by simp) ?_) (by repeat first | exact .refl | exact .nil | exact .z | apply Pk.s | refine Ge.e ?_ | apply Ge.pick | apply Ge.drop)
   clear hK8
   refine cblock ?_
   refine cseq ?_; intro K9 hK9
   refine creg ?_
   refine y (ev_move rfl) rfl ?_
   refine y (ev_assign rfl) rfl ?_
   refine ynil' (kthn (hK9 _ _ ?_))
   clear hK9
   refine cseq ?_; intro K10 hK10
   refine creg ?_
   refine y (ev_loadN (u := [i64 n, u64 b]) rfl Tryz.isAgg54 Tryz.sizeOf54 (by repeat first | exact .z | apply In.s) rfl rfl) rfl ?_
   refine y (ev_move rfl) rfl ?_
   refine ycall (xHas ?xn87 ?xb87) rfl Tryz.call51 (by repeat first | exact .nil | exact .z | apply Pk.s | apply Tk.cons) rfl ?_
   case xn87 => exact hn
   case xb87 => exact hb
   rintro v L' ⟨rfl, rfl⟩
   rw [show hasR n b k = b.testBit k by unfold hasR; rw [inR_iff.2 ⟨by omega, by omega⟩, Bool.true_and, Int.toNat_natCast]]
   refine ynil' (kthn (hK10 _ _ ?_))
   clear hK10
   refine ccond rfl (fun h88 => ?_) (fun h88 => ?_)
   ·(try simp only [sH] at h88)
    have hsu : allTo b (k + 1) = allTo b k ++ [(k : Int)] := by rw [allTo_succ, if_pos h88]
    refine creg ?_
    refine y (ev_move rfl) rfl ?_
    refine y (ev_move rfl) rfl ?_
    refine ya (ac_bsliceR rfl Tryz.underlying49 Tryz.sizeOf3 Tryz.zeroValue3 rfl rfl rfl rfl ⟨⟨_, _, rfl, (by first | rfl | simp), (by first | decide | simp)⟩, trivial⟩ (by dsimp [fillL, splice, vcells, reps] <;> rfl)) rfl ?_
    rintro v L' ⟨b15, rfl, rfl⟩
    refine ya (ac_append (s := s) (xs := intsV (allTo b k)) (m := (allTo b k).length) (k := 1) (us := [i64 k]) (size := 1) rfl rfl (by repeat first | exact .z | apply Pk.s) Tryz.underlying49 Tryz.underlying49 (by intro q hq; cases hq) Tryz.typeInfo3 rfl rfl rfl ?ok92 ?src92 ?one92 ?big92) rfl ?_
    case ok92 => exact ok
    case src92 => exact src_at (by repeat first | exact .z | apply In.s) rfl rfl
    case one92 => intro u hu; simp at hu; subst hu; rfl
    case big92 => show (_ + _) * 9 ≤ _; omega
    rintro v L' ⟨s16, rfl, ok16, rfl⟩
    rw [show intsV (allTo b k) ++ [i64 (k : Int)] = intsV (allTo b (k + 1)) by rw [hsu]; simp [intsV], show (allTo b k).length + 1 = (allTo b (k + 1)).length by rw [hsu]; simp] at ok16 ⊢
    refine y (ev_assign rfl) rfl ?_
    refine ynil' (kbn (kthn ?_))
    exact ksub (by repeat first | exact sub_nil | refine sub_cons rfl ?_ | refine sub_cons' rfl (by simp) ?_) (by repeat first | exact .refl | exact .nil | exact .z | apply Pk.s | refine Ge.e ?_ | apply Ge.pick | apply Ge.drop) (hJr7 _ (by assumption))
   ·(try simp only [sH] at h88)
    have hsu : allTo b (k + 1) = allTo b k := by rw [allTo_succ, if_neg (by rw [h88]; decide)]
    rw [← hsu] at ok ⊢
    refine cskip' (kbn (kthn ?_))
    exact ksub (by repeat first | exact sub_nil | refine sub_cons rfl ?_ | refine sub_cons' rfl (by simp) ?_) (by repeat first | exact .refl | exact .nil | exact .z | apply Pk.s | refine Ge.e ?_ | apply Ge.pick | apply Ge.drop) (hJr7 _ (by assumption))
  ·(try simp only [sH] at h80)
   refine cexit (kthx (kthx (kbx (kthn ?_))))
   exact ksub (by repeat first | exact sub_nil | refine sub_cons rfl ?_ | refine sub_cons' rfl (by simp) ?_) (by repeat first | exact .refl | exact .nil | exact .z | apply Pk.s | refine Ge.e ?_ | apply Ge.pick | apply Ge.drop) (hJ1 ⟨k, s⟩ ⟨hI1o, by first | trivial | omega⟩)
theorem xCount [Env] {R : List Seg} {n b : Nat} (hn : n ≤ 64) (hb : b < 2 ^ n) : Con Tryz.prog 44 [rowV n b] [] R (Is (i64 (allTo b n).length) []) := by
  refine con_enter Tryz.func44 Tryz.ntmps44 rfl rfl ?_
  refine cseq ?_; intro K1 hK1
  refine creg ?_
  refine ya (ac_box (vs := [i64 n, u64 b]) rfl rfl) rfl ?_
  rintro v L' ⟨b1, rfl, rfl⟩
  refine y (ev_assign rfl) rfl ?_
  refine ynil' (kthn (hK1 _ _ ?_))
  clear hK1
  refine cseq ?_; intro K2 hK2
  refine creg ?_
  refine y (ev_loadN (u := [i64 n, u64 b]) rfl Tryz.isAgg54 Tryz.sizeOf54 (by repeat first | exact .z | apply In.s) rfl rfl) rfl ?_
  refine ycall (xAll ?xn97 ?xb97) rfl Tryz.call61 (by repeat first | exact .nil | exact .z | apply Pk.s | apply Tk.cons) rfl ?_
  case xn97 => exact hn
  case xb97 => exact hb
  rintro v L' ⟨s4, rfl, ok4, rfl⟩
  first
    | refine y (ev_len rfl Tryz.underlying49) rfl ?_
    | refine y (ev_lenSv rfl Tryz.underlying49 (by assumption)) rfl ?_
    | refine y (ev_lenV rfl Tryz.underlying49 (RdV.lenVal (by assumption))) rfl ?_
    | refine y (ev_lenV rfl Tryz.underlying49 (RdB.lenVal (by assumption))) rfl ?_
  refine y (ev_assign rfl) rfl ?_
  refine ynil' (kthn (hK2 _ _ ?_))
  clear hK2
  refine cret ?_
  first
    | (exfalso; omega; done)
    | (refine kretv Tryz.results44 rfl (L1 := R) (by repeat first | exact .refl | exact .nil | exact .z | apply Pk.s | refine Ge.e ?_ | apply Ge.pick | apply Ge.drop) ?_
       exact ⟨_, ⟨by first | rfl | (simp [*]; done) | (simp [*]; omega) | simp_all, rfl⟩, by first | rfl | (simp [*]; done) | (simp [*]; omega) | simp_all⟩)
end W
end Go.Proofs
