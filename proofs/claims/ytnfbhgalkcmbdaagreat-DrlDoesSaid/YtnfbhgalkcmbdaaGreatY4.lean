/- A part of the proof: contracts and plain lemmas, each without conditions beyond those that it names. -/
import Derived.Test.YtnfbhgalkcmbdaaGreatY3
import Derived.Test.YtnfbhgalkcmbdaaGreatBitS
set_option linter.unusedVariables false
set_option linter.unusedSimpArgs false
set_option linter.constructorNameAsVariable false
namespace Go.Proofs
open Go Go.Sl
theorem Tryz.zr7 : Tryz.zeroCells60 = (rowC 0 0).toArray := by rfl
namespace W
set_option linter.unusedVariables false
abbrev rrV (n b : Nat) : Value := .agg (rowC n b).toArray
theorem z7 : (Value.agg Tryz.zeroCells60).cells = (rowC 0 0).toArray := by rw [Tryz.zr7]; rfl
theorem fill7 (n : Nat) : fillL [(0, 1), (1, 64)] (rowC 0 0) [(0, .int .i64 n)] = rowC n 0 := by
  simp [fillL, splice, vcells, rowC]
theorem r7New [Env] {R : List Seg} {n : Nat} (h : n ≤ 64) : Con Tryz.prog 37 [i64 n] [] R (Is (rrV n 0) []) := by
  refine con_enter Tryz.func37 Tryz.ntmps37 rfl rfl ?_
  refine cseq ?_; intro K1 hK1
  refine creg ?_
  refine ya (ac_alloc (vs := rowC 0 0) Tryz.zeroValue60 Tryz.zr7) rfl ?_
  rintro v L' ⟨b2, rfl, rfl⟩
  refine ynil' (kthn (hK1 _ _ ?_))
  clear hK1
  refine cseq ?_; intro K2 hK2
  refine cseq ?_; intro K3 hK3
  refine creg ?_
  refine y (ev_move rfl) rfl ?_
  refine y (ev_lss rfl rfl) rfl ?_
  refine y (ev_move rfl) rfl ?_
  refine ysplit 5 rfl (fun h5 => ?_) (fun h5 => ?_)
  ·(try simp only [sH] at h5)
   refine yg0 rfl rfl rfl rfl ?_
   refine yg0 rfl rfl rfl rfl ?_
   refine y (ev_pick1 rfl rfl) rfl ?_
   refine ynil' (kthn (hK3 _ _ ?_))
   clear hK3
   refine ccond1 rfl ?_
   refine cseq ?_; intro K4 hK4
   refine creg ?_
   exfalso; omega
  ·(try simp only [sH] at h5)
   refine yg1 rfl rfl ?_
   refine y (ev_move rfl) rfl ?_
   refine yg1 rfl rfl ?_
   refine y (ev_gtr rfl rfl) rfl ?_
   refine y (ev_pick0 rfl rfl) rfl ?_
   refine ynil' (kthn (hK3 _ _ ?_))
   clear hK3
   refine ccond rfl (fun h10 => ?_) (fun h10 => ?_)
   ·(try simp only [sH] at h10)
    refine cseq ?_; intro K5 hK5
    refine creg ?_
    exfalso; omega
   ·(try simp only [sH] at h10)
    refine cskip' (kthn (hK2 _ _ ?_))
    clear hK2
    refine cseq ?_; intro K6 hK6
    refine creg ?_
    refine y (ev_move rfl) rfl ?_
    refine y (ev_build (zs := rowC 0 0) (vs := rowC n 0) rfl Tryz.underlying60 Tryz.zeroValue60 z7 (.cons Tryz.sizeOf3 (.cons Tryz.sizeOf58 .nil)) ⟨⟨_, _, rfl, rfl, (by rw [rowC_len]; decide)⟩, trivial⟩ (fill7 n)) rfl ?_
    refine ya0 (ac_storeAll rfl rfl (rowC_one n 0) Tryz.sizeOf60 (by repeat first | exact .z | apply Rp.s) (rowC_len _ _) (rowC_len _ _)) ?_
    rintro v L' ⟨rfl, rfl⟩
    refine ynil' (kthn (hK6 _ _ ?_))
    clear hK6
    refine cret ?_
    first
      | (exfalso; omega; done)
      | (refine kretc Tryz.results37 rfl Tryz.isAgg60 Tryz.sizeOf60 (by repeat first | exact .z | apply In.s) (rfl) (L1 := [] ++ R) (by repeat first | exact .refl | exact .nil | exact .z | apply Pk.s | refine Ge.e ?_ | apply Ge.pick | apply Ge.drop) ?_
         exact ⟨_, ⟨rfl, rfl⟩, rfl⟩)
theorem r7Has [Env] {R : List Seg} {n b : Nat} {i : Int} (h : n ≤ 64) : Con Tryz.prog 52 [rrV n b, i64 i] [] R (Is (.bool (hasR n b i)) []) := by
  refine con_enter Tryz.func52 Tryz.ntmps52 rfl rfl ?_
  refine cseq ?_; intro K1 hK1
  refine creg ?_
  refine ya (ac_box (vs := rowC n b) rfl rfl) rfl ?_
  rintro v L' ⟨b2, rfl, rfl⟩
  refine y (ev_assign rfl) rfl ?_
  refine ynil' (kthn (hK1 _ _ ?_))
  clear hK1
  refine cseq ?_; intro K2 hK2
  refine creg ?_
  refine y (ev_move rfl) rfl ?_
  refine y (ev_geq rfl rfl) rfl ?_
  refine y (ev_move rfl) rfl ?_
  refine ysplit 7 rfl (fun h19 => ?_) (fun h19 => ?_)
  ·(try simp only [sH] at h19)
   refine yg1 rfl rfl ?_
   refine y (ev_move rfl) rfl ?_
   refine yg1 rfl rfl ?_
   refine y (ev_fieldAddr 0 rfl Tryz.underlying60 rfl Tryz.sizeOf3) rfl ?_
   refine yg1 rfl rfl ?_
   refine y (ev_load rfl Tryz.isAgg3 (by repeat first | exact .z | apply In.s) rfl) rfl ?_
   refine yg1 rfl rfl ?_
   refine y (ev_lss rfl rfl) rfl ?_
   refine y (ev_pick1 rfl rfl) rfl ?_
   refine y (ev_move rfl) rfl ?_
   refine ysplit 13 rfl (fun h26 => ?_) (fun h26 => ?_)
   ·(try simp only [sH] at h26)
    refine yg1 rfl rfl ?_
    refine y (ev_move rfl) rfl ?_
    refine yg1 rfl rfl ?_
    refine y (ev_fieldAddr 1 rfl Tryz.underlying60 rfl Tryz.sizeOf58) rfl ?_
    refine yg1 rfl rfl ?_
    refine y (ev_ixAddrA rfl rfl Tryz.underlying58 Tryz.sizeOf4 (by omega) (by omega)) rfl ?_
    refine yg1 rfl rfl ?_
    refine y (ev_load rfl Tryz.isAgg4 (by repeat first | exact .z | apply In.s) (by rw [show 0 + 1 + i.toNat * 1 = i.toNat + 1 by omega]; exact rowC_get (by omega))) rfl ?_
    refine y (ev_pick1 rfl rfl) rfl ?_
    refine y (ev_assign rfl) rfl ?_
    refine ynil' (kthn (hK2 _ _ ?_))
    clear hK2
    refine cret ?_
    first
      | (exfalso; omega; done)
      | (refine kretv Tryz.results52 rfl (L1 := [] ++ R) (by repeat first | exact .refl | exact .nil | exact .z | apply Pk.s | refine Ge.e ?_ | apply Ge.pick | apply Ge.drop) ?_
         exact ⟨_, ⟨congrArg Value.bool (by first | exact (hasR_yes (by assumption) (by assumption)).symm | exact (hasR_no (by omega)).symm), rfl⟩, rfl⟩)
   ·(try simp only [sH] at h26)
    refine yg0 rfl rfl rfl rfl ?_
    refine yg0 rfl rfl rfl rfl ?_
    refine yg0 rfl rfl rfl rfl ?_
    refine yg0 rfl rfl rfl rfl ?_
    refine y (ev_pick0 rfl rfl) rfl ?_
    refine y (ev_assign rfl) rfl ?_
    refine ynil' (kthn (hK2 _ _ ?_))
    clear hK2
    refine cret ?_
    first
      | (exfalso; omega; done)
      | (refine kretv Tryz.results52 rfl (L1 := [] ++ R) (by repeat first | exact .refl | exact .nil | exact .z | apply Pk.s | refine Ge.e ?_ | apply Ge.pick | apply Ge.drop) ?_
         exact ⟨_, ⟨congrArg Value.bool (by first | exact (hasR_yes (by assumption) (by assumption)).symm | exact (hasR_no (by omega)).symm), rfl⟩, rfl⟩)
  ·(try simp only [sH] at h19)
   refine yg0 rfl rfl rfl rfl ?_
   refine yg0 rfl rfl rfl rfl ?_
   refine yg0 rfl rfl rfl rfl ?_
   refine yg0 rfl rfl rfl rfl ?_
   refine y (ev_pick0 rfl rfl) rfl ?_
   refine y (ev_move rfl) rfl ?_
   refine yg0 rfl rfl rfl rfl ?_
   refine yg0 rfl rfl rfl rfl ?_
   refine yg0 rfl rfl rfl rfl ?_
   refine yg0 rfl rfl rfl rfl ?_
   refine y (ev_pick0 rfl rfl) rfl ?_
   refine y (ev_assign rfl) rfl ?_
   refine ynil' (kthn (hK2 _ _ ?_))
   clear hK2
   refine cret ?_
   first
     | (exfalso; omega; done)
     | (refine kretv Tryz.results52 rfl (L1 := [] ++ R) (by repeat first | exact .refl | exact .nil | exact .z | apply Pk.s | refine Ge.e ?_ | apply Ge.pick | apply Ge.drop) ?_
        exact ⟨_, ⟨congrArg Value.bool (by first | exact (hasR_yes (by assumption) (by assumption)).symm | exact (hasR_no (by omega)).symm), rfl⟩, rfl⟩)
theorem r7Set [Env] {R : List Seg} {n b : Nat} {i : Int} (h : n ≤ 64) (hi : inR n i = true) : Con Tryz.prog 42 [rrV n b, i64 i, .bool true] [] R (Is (.tuple #[rrV n (putR b i), i64 0]) []) := by
  obtain ⟨h0, h1⟩ := inR_iff.1 hi
  refine con_enter Tryz.func42 Tryz.ntmps42 rfl rfl ?_
  refine cseq ?_; intro K1 hK1
  refine creg ?_
  refine ya (ac_box (vs := rowC n b) rfl rfl) rfl ?_
  rintro v L' ⟨b3, rfl, rfl⟩
  refine ya (ac_alloc (vs := rowC 0 0) Tryz.zeroValue60 Tryz.zr7) rfl ?_
  rintro v L' ⟨b6, rfl, rfl⟩
  refine y (ev_assign rfl) rfl ?_
  refine ynil' (kthn (hK1 _ _ ?_))
  clear hK1
  refine cseq ?_; intro K2 hK2
  refine cseq ?_; intro K3 hK3
  refine creg ?_
  refine y (ev_move rfl) rfl ?_
  refine y (ev_lss rfl rfl) rfl ?_
  refine y (ev_move rfl) rfl ?_
  refine ysplit 10 rfl (fun h45 => ?_) (fun h45 => ?_)
  ·(try simp only [sH] at h45)
   refine yg0 rfl rfl rfl rfl ?_
   refine yg0 rfl rfl rfl rfl ?_
   refine yg0 rfl rfl rfl rfl ?_
   refine yg0 rfl rfl rfl rfl ?_
   refine y (ev_pick1 rfl rfl) rfl ?_
   refine ynil' (kthn (hK3 _ _ ?_))
   clear hK3
   refine ccond1 rfl ?_
   refine cseq ?_; intro K4 hK4
   refine creg ?_
   exfalso; omega
  ·(try simp only [sH] at h45)
   refine yg1 rfl rfl ?_
   refine y (ev_move rfl) rfl ?_
   refine yg1 rfl rfl ?_
   refine y (ev_fieldAddr 0 rfl Tryz.underlying60 rfl Tryz.sizeOf3) rfl ?_
   refine yg1 rfl rfl ?_
   refine y (ev_load rfl Tryz.isAgg3 (by repeat first | exact .z | apply In.s) rfl) rfl ?_
   refine yg1 rfl rfl ?_
   refine y (ev_geq rfl rfl) rfl ?_
   refine y (ev_pick0 rfl rfl) rfl ?_
   refine ynil' (kthn (hK3 _ _ ?_))
   clear hK3
   refine ccond rfl (fun h52 => ?_) (fun h52 => ?_)
   ·(try simp only [sH] at h52)
    refine cseq ?_; intro K5 hK5
    refine creg ?_
    exfalso; omega
   ·(try simp only [sH] at h52)
    refine cskip' (kthn (hK2 _ _ ?_))
    clear hK2
    refine cseq ?_; intro K6 hK6
    refine creg ?_
    refine y (ev_move rfl) rfl ?_
    refine y (ev_move rfl) rfl ?_
    refine y (ev_fieldAddr 1 rfl Tryz.underlying60 rfl Tryz.sizeOf58) rfl ?_
    refine y (ev_ixAddrA rfl rfl Tryz.underlying58 Tryz.sizeOf4 (by omega) (by omega)) rfl ?_
    refine ya0 (ac_store (vs' := rowC n (putR b i)) rfl rfl rfl Tryz.sizeOf4 (by repeat first | exact .z | apply Rp.s) (by rw [rowC_len, Nat.blt_eq]; omega) (by rw [show 0 + 1 + i.toNat * 1 = i.toNat + 1 by omega, rowC_putR h0 (by omega)])) ?_
    rintro v L' ⟨rfl, rfl⟩
    refine ynil' (kthn (hK6 _ _ ?_))
    clear hK6
    refine cseq ?_; intro K7 hK7
    refine creg ?_
    refine y (ev_loadN (u := rowC n (putR b i)) rfl Tryz.isAgg60 Tryz.sizeOf60 (by repeat first | exact .z | apply In.s) (by rw [List.drop_zero, List.take_of_length_le (by rw [rowC_len]; decide)]) (rowC_len _ _)) rfl ?_
    refine ya0 (ac_storeAll rfl rfl (rowC_one _ _) Tryz.sizeOf60 (by repeat first | exact .z | apply Rp.s) (rowC_len _ _) (rowC_len _ _)) ?_
    rintro v L' ⟨rfl, rfl⟩
    refine y (ev_assign rfl) rfl ?_
    refine ynil' (kthn (hK7 _ _ ?_))
    clear hK7
    refine cret ?_
    first
      | (exfalso; omega; done)
      | (refine kretct Tryz.results42 rfl rfl Tryz.isAgg60 Tryz.sizeOf60 (by repeat first | exact .z | apply In.s) (rfl) (L1 := [] ++ R) (by repeat first | exact .refl | exact .nil | exact .z | apply Pk.s | refine Ge.e ?_ | apply Ge.pick | apply Ge.drop) ?_
         exact ⟨_, ⟨rfl, rfl⟩, rfl⟩)
theorem r7All [Env] {R : List Seg} {n b : Nat} (h : n ≤ 64) : Con Tryz.prog 45 [rrV n b] [] R (KSv 3 (allTo b n).length 1 (intsV (allTo b n)) []) := by
  refine con_enter Tryz.func45 Tryz.ntmps45 rfl rfl ?_
  refine cseq ?_; intro K1 hK1
  refine creg ?_
  refine ya (ac_box (vs := rowC n b) rfl rfl) rfl ?_
  rintro v L' ⟨b1, rfl, rfl⟩
  refine y (ev_assign rfl) rfl ?_
  refine ynil' (kthn (hK1 _ _ ?_))
  clear hK1
  refine cseq ?_; intro K2 hK2
  refine creg ?_
  refine ya (ac_bslice0 Tryz.underlying49 Tryz.sizeOf3) rfl ?_
  rintro v L' ⟨b5, rfl, rfl⟩
  refine y (ev_assign rfl) rfl ?_
  refine ynil' (kthn (hK2 _ _ ?_))
  clear hK2
  refine cseq ?_; intro K3 hK3
  refine cseq ?_; intro K4 hK4
  refine creg ?_
  refine y (ev_assign rfl) rfl ?_
  refine ynil' (kthn (hK4 _ _ ?_))
  clear hK4
  have hJ1 : ∀ x : Nat × Sv, ((x.1 ≤ n ∧ svOk x.2 (allTo b x.1).length 1 (intsV (allTo b x.1))) ∧ (x.1 = n)) → Sk 21 K3 ([(4, i64 x.1), (3, svVal x.2 (allTo b x.1).length), (1, ptr b1)]) ([sc b1 (rowC n b) 60, svSeg x.2 3 (intsV (allTo b x.1))] ++ R) := by
   rintro ⟨k, s⟩ ⟨hI1, hX1⟩
   refine hK3 _ _ ?_
   obtain ⟨hk, ok⟩ := hI1; dsimp only at hk ok ⊢; have hal := allTo_le b k
   dsimp only at hX1; subst hX1
   refine cseq ?_; intro K5 hK5
   refine creg ?_
   refine y (ev_move rfl) rfl ?_
   refine y (ev_assign rfl) rfl ?_
   refine ynil' (kthn (hK5 _ _ ?_))
   clear hK5
   refine cret ?_
   first
     | (exfalso; omega; done)
     | (refine kretv Tryz.results45 rfl (L1 := [svSeg s 3 (intsV (allTo b _))] ++ R) (by repeat first | exact .refl | exact .nil | exact .z | apply Pk.s | refine Ge.e ?_ | apply Ge.pick | apply Ge.drop) ?_
        exact ⟨_, ⟨s, rfl, ok, rfl⟩, rfl⟩)
  clear hK3
  refine cblock ?_
  refine cloop (A := Nat × Sv) (fun x => [(4, i64 x.1), (3, svVal x.2 (allTo b x.1).length), (1, ptr b1)]) (fun x => [sc b1 (rowC n b) 60, svSeg x.2 3 (intsV (allTo b x.1))] ++ R) (fun x => x.1 ≤ n ∧ svOk x.2 (allTo b x.1).length 1 (intsV (allTo b x.1))) (fun x => n - x.1) ((0, some (b5, 0, []))) ?_ (by repeat first | exact sub_nil | refine sub_cons rfl ?_ | refine sub_cons' rfl (by simp) ?_) (by repeat first | exact .refl | exact .nil | exact .z | apply Pk.s | refine Ge.e ?_ | apply Ge.pick | apply Ge.drop) ?_
  · exact ⟨Nat.zero_le _, Nat.zero_le _, by decide, rfl, rfl⟩
  rintro ⟨k, s⟩ hI1 KL1 hL1
  have hI1o := hI1
  obtain ⟨hk, ok⟩ := hI1; dsimp only at hk ok ⊢; have hal := allTo_le b k
  refine cseq ?_; intro K6 hK6
  refine cseq ?_; intro K7 hK7
  refine creg ?_
  refine y (ev_move rfl) rfl ?_
  refine y (ev_fieldAddr 0 rfl Tryz.underlying60 rfl Tryz.sizeOf3) rfl ?_
  refine y (ev_load rfl Tryz.isAgg3 (by repeat first | exact .z | apply In.s) rfl) rfl ?_
  refine y (ev_lss rfl rfl) rfl ?_
  refine ynil' (kthn (hK7 _ _ ?_))
  clear hK7
  refine ccond rfl (fun h72 => ?_) (fun h72 => ?_)
  ·(try simp only [sH] at h72)
   refine cskip' (kthn (hK6 _ _ ?_))
   clear hK6
   refine cseq ?_; intro K8 hK8
   have hJr4 : ∀ x : Sv, (svOk x (allTo b (k + 1)).length 1 (intsV (allTo b (k + 1)))) → Sk 21 K8 ([(4, i64 k), (3, svVal x (allTo b (k + 1)).length), (1, ptr b1)]) ([sc b1 (rowC n b) 60, svSeg x 3 (intsV (allTo b (k + 1)))] ++ R) := by
    rintro s2 hIr4
    refine hK8 _ _ ?_
    have hk7 : k < n := by omega
    refine creg ?_
    refine y (ev_move rfl) rfl ?_
    refine y (ev_add rfl rfl) rfl ?_
    rw [show IntKind.i64.wrap ((k:Int) + 1) = ((k+1 : Nat) : Int) by rw [wr (by omega) (by omega)]; rfl]
    refine y (ev_assign rfl) rfl ?_
    refine ynil' (kthn ?_)
    exact hL1 ((k + 1, s2)) (⟨by dsimp only; omega, hIr4⟩) (by dsimp only; omega) _ _ (by repeat first | exact sub_nil | refine sub_cons rfl ?_ | refine sub_cons' rfl (by simp) ?_) (by repeat first | exact .refl | exact .nil | exact .z | apply Pk.s | refine Ge.e ?_ | apply Ge.pick | apply Ge.drop)
   clear hK8
   refine cblock ?_
   refine cseq ?_; intro K9 hK9
   refine creg ?_
   refine y (ev_move rfl) rfl ?_
   refine y (ev_fieldAddr 1 rfl Tryz.underlying60 rfl Tryz.sizeOf58) rfl ?_
   refine y (ev_ixAddrA rfl rfl Tryz.underlying58 Tryz.sizeOf4 (by omega) (by omega)) rfl ?_
   refine y (ev_load rfl Tryz.isAgg4 (by repeat first | exact .z | apply In.s) (by rw [show 0 + 1 + (k : Int).toNat * 1 = k + 1 by simp; omega]; exact rowC_get (by omega))) rfl ?_
   refine ynil' (kthn (hK9 _ _ ?_))
   clear hK9
   refine ccond rfl (fun h80 => ?_) (fun h80 => ?_)
   ·(try simp only [sH] at h80)
    have hsu : allTo b (k + 1) = allTo b k ++ [(k : Int)] := by rw [allTo_succ, if_pos h80]
    refine creg ?_
    refine y (ev_move rfl) rfl ?_
    refine y (ev_move rfl) rfl ?_
    refine ya (ac_bsliceR rfl Tryz.underlying49 Tryz.sizeOf3 Tryz.zeroValue3 rfl rfl rfl rfl ⟨⟨_, _, rfl, (by first | rfl | simp), (by first | decide | simp)⟩, trivial⟩ (by dsimp [fillL, splice, vcells, reps] <;> rfl)) rfl ?_
    rintro v L' ⟨b18, rfl, rfl⟩
    refine ya (ac_append (s := s) (xs := intsV (allTo b k)) (m := (allTo b k).length) (k := 1) (us := [i64 k]) (size := 1) rfl rfl (by repeat first | exact .z | apply Pk.s) Tryz.underlying49 Tryz.underlying49 (by intro q hq; cases hq) Tryz.typeInfo3 rfl rfl rfl ?ok84 ?src84 ?one84 ?big84) rfl ?_
    case ok84 => exact ok
    case src84 => exact src_at (by repeat first | exact .z | apply In.s) rfl rfl
    case one84 => intro u hu; simp at hu; subst hu; rfl
    case big84 => show (_ + _) * 9 ≤ _; omega
    rintro v L' ⟨s19, rfl, ok19, rfl⟩
    rw [show intsV (allTo b k) ++ [i64 (k : Int)] = intsV (allTo b (k + 1)) by rw [hsu]; simp [intsV], show (allTo b k).length + 1 = (allTo b (k + 1)).length by rw [hsu]; simp] at ok19 ⊢
    refine y (ev_assign rfl) rfl ?_
    refine ynil' (kbn (kthn ?_))
    exact ksub (by repeat first | exact sub_nil | refine sub_cons rfl ?_ | refine sub_cons' rfl (by simp) ?_) (by repeat first | exact .refl | exact .nil | exact .z | apply Pk.s | refine Ge.e ?_ | apply Ge.pick | apply Ge.drop) (hJr4 _ (by assumption))
   ·(try simp only [sH] at h80)
    have hsu : allTo b (k + 1) = allTo b k := by rw [allTo_succ, if_neg (by rw [h80]; decide)]
    rw [← hsu] at ok ⊢
    refine cskip' (kbn (kthn ?_))
    exact ksub (by repeat first | exact sub_nil | refine sub_cons rfl ?_ | refine sub_cons' rfl (by simp) ?_) (by repeat first | exact .refl | exact .nil | exact .z | apply Pk.s | refine Ge.e ?_ | apply Ge.pick | apply Ge.drop) (hJr4 _ (by assumption))
  ·(try simp only [sH] at h72)
   refine cexit (kthx (kthx (kbx (kthn ?_))))
   exact ksub (by repeat first | exact sub_nil | refine sub_cons rfl ?_ | refine sub_cons' rfl (by simp) ?_) (by repeat first | exact .refl | exact .nil | exact .z | apply Pk.s | refine Ge.e ?_ | apply Ge.pick | apply Ge.drop) (hJ1 ⟨k, s⟩ ⟨hI1o, by first | trivial | omega⟩)
end W
end Go.Proofs
