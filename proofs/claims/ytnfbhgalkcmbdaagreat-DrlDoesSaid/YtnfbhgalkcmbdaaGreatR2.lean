/- A part of the proof: contracts and plain lemmas, each without conditions beyond those that it names. -/
import Derived.Test.YtnfbhgalkcmbdaaGreatR1
set_option linter.unusedVariables false
set_option linter.unusedSimpArgs false
set_option linter.constructorNameAsVariable false
namespace Go.Proofs
open Go Go.Sl
namespace W
set_option linter.unusedVariables false
theorem xText [Env] {R : List Seg} {n b : Nat} (hn : n ≤ 64) (hb : b < 2 ^ n) : Con Tryz.prog 27 [rowV n b] [] R (Is (str (textR n b)) []) := by
  have h64 := pow_le64 hn
  refine con_enter Tryz.func27 Tryz.ntmps27 rfl rfl ?_
  refine cseq ?_; intro K1 hK1
  refine creg ?_
  refine ya (ac_box (vs := [i64 n, u64 b]) rfl rfl) rfl ?_
  rintro v L' ⟨b1, rfl, rfl⟩
  refine y (ev_assign rfl) rfl ?_
  refine ynil' (kthn (hK1 _ _ ?_))
  clear hK1
  refine cseq ?_; intro K2 hK2
  refine creg ?_
  refine y (ev_fieldAddr 0 rfl Tryz.underlying54 rfl Tryz.sizeOf3) rfl ?_
  refine y (ev_load rfl Tryz.isAgg3 (by repeat first | exact .z | apply In.s) rfl) rfl ?_
  refine y (ev_conv rfl Tryz.underlying3 Tryz.underlying5) rfl ?_
  rw [wu8, show ((n : Nat) : Int) % 256 = (((UInt8.ofNat n).toNat : Nat) : Int) by rw [UInt8.toNat_ofNat']; omega]
  refine ya (ac_bsliceR rfl Tryz.underlying47 Tryz.sizeOf5 Tryz.zeroValue5 rfl rfl rfl rfl ⟨⟨_, _, rfl, (by first | rfl | simp), (by first | decide | simp)⟩, trivial⟩ (by dsimp [fillL, splice, vcells, reps] <;> rfl)) rfl ?_
  rintro v L' ⟨b8, rfl, rfl⟩
  refine y (ev_assign rfl) rfl ?_
  refine ynil' (kthn (hK2 _ _ ?_))
  clear hK2
  refine cseq ?_; intro K3 hK3
  refine cseq ?_; intro K4 hK4
  refine creg ?_
  refine y (ev_assign rfl) rfl ?_
  refine ynil' (kthn (hK4 _ _ ?_))
  clear hK4
  have hJ1 : ∀ x : Nat × Sv, ((x.1 ≤ rowN n ∧ svOk x.2 (1 + x.1) 1 (bytesV (UInt8.ofNat n :: loB x.1 b))) ∧ (x.1 = rowN n)) → Sk 25 K3 ([(4, i64 ((8 * x.1 : Nat) : Int)), (3, svVal x.2 (1 + x.1)), (1, ptr b1)]) ([sc b1 [i64 n, u64 b] 54, svSeg x.2 5 (bytesV (UInt8.ofNat n :: loB x.1 b))] ++ R) := by
   rintro ⟨k, s⟩ ⟨hI1, hX1⟩
   refine hK3 _ _ ?_
   obtain ⟨hk, ok⟩ := hI1; dsimp only at hk ok ⊢; have hr8 : rowN n ≤ 8 := by unfold rowN; omega
   dsimp only at hX1; subst hX1
   refine cseq ?_; intro K5 hK5
   refine creg ?_
   have hte : textR n b = UInt8.ofNat n :: loB (rowN n) b := rfl
   rw [← hte, show 1 + rowN n = (textR n b).length by rw [textR_len]] at ok ⊢
   refine y (ev_move rfl) rfl ?_
   refine y (ev_toStrB (rdY_sv (L := [svSeg s 5 (bytesV (textR n b))]) .z ok).rd.bytes (by repeat first | exact .refl | exact .nil | exact .z | apply Pk.s | refine Ge.e ?_ | apply Ge.pick | apply Ge.drop) rfl Tryz.underlying47 Tryz.underlying9 Tryz.underlying5) rfl ?_
   refine y (ev_assign rfl) rfl ?_
   refine ynil' (kthn (hK5 _ _ ?_))
   clear hK5
   refine cret ?_
   first
     | (exfalso; omega; done)
     | (refine kretv Tryz.results27 rfl (L1 := R) (by repeat first | exact .refl | exact .nil | exact .z | apply Pk.s | refine Ge.e ?_ | apply Ge.pick | apply Ge.drop) ?_
        exact ⟨_, ⟨by rfl, rfl⟩, by rfl⟩)
  clear hK3
  refine cblock ?_
  refine cloop (A := Nat × Sv) (fun x => [(4, i64 ((8 * x.1 : Nat) : Int)), (3, svVal x.2 (1 + x.1)), (1, ptr b1)]) (fun x => [sc b1 [i64 n, u64 b] 54, svSeg x.2 5 (bytesV (UInt8.ofNat n :: loB x.1 b))] ++ R) (fun x => x.1 ≤ rowN n ∧ svOk x.2 (1 + x.1) 1 (bytesV (UInt8.ofNat n :: loB x.1 b))) (fun x => rowN n - x.1) ((0, some (b8, 1, []))) ?_ (by repeat first | exact sub_nil | refine sub_cons rfl ?_ | refine sub_cons' rfl (by simp) ?_) (by repeat first | exact .refl | exact .nil | exact .z | apply Pk.s | refine Ge.e ?_ | apply Ge.pick | apply Ge.drop) ?_
  · exact ⟨Nat.zero_le _, ⟨Nat.le_refl _, by decide, rfl, rfl⟩⟩
  rintro ⟨k, s⟩ hI1 KL1 hL1
  have hI1o := hI1
  obtain ⟨hk, ok⟩ := hI1; dsimp only at hk ok ⊢; have hr8 : rowN n ≤ 8 := by unfold rowN; omega
  refine cseq ?_; intro K6 hK6
  refine cseq ?_; intro K7 hK7
  refine creg ?_
  refine y (ev_move rfl) rfl ?_
  refine y (ev_fieldAddr 0 rfl Tryz.underlying54 rfl Tryz.sizeOf3) rfl ?_
  refine y (ev_load rfl Tryz.isAgg3 (by repeat first | exact .z | apply In.s) rfl) rfl ?_
  refine y (ev_lss rfl rfl) rfl ?_
  refine ynil' (kthn (hK7 _ _ ?_))
  clear hK7
  refine ccond rfl (fun h16 => ?_) (fun h16 => ?_)
  ·(try simp only [sH] at h16)
   refine cskip' (kthn (hK6 _ _ ?_))
   clear hK6
   refine cseq ?_; intro K8 hK8
   refine cblock ?_
   refine creg ?_
   refine y (ev_move rfl) rfl ?_
   refine y (ev_fieldAddr 1 rfl Tryz.underlying54 rfl Tryz.sizeOf52) rfl ?_
   refine y (ev_load rfl Tryz.isAgg52 (by repeat first | exact .z | apply In.s) rfl) rfl ?_
   refine y (ev_move rfl) rfl ?_
   refine y (ev_shr rfl rfl (by first | decide | omega)) rfl ?_
   rw [shr_u64 (by omega)]
   refine y (ev_conv rfl Tryz.underlying52 Tryz.underlying5) rfl ?_
   rw [wu8, show ((b / 2 ^ (8 * k) : Nat) : Int) % 256 = (((UInt8.ofNat (b / 2 ^ (8 * k) % 256)).toNat : Nat) : Int) by rw [UInt8.toNat_ofNat']; omega]
   refine ya (ac_bsliceR rfl Tryz.underlying47 Tryz.sizeOf5 Tryz.zeroValue5 rfl rfl rfl rfl ⟨⟨_, _, rfl, (by first | rfl | simp), (by first | decide | simp)⟩, trivial⟩ (by dsimp [fillL, splice, vcells, reps] <;> rfl)) rfl ?_
   rintro v L' ⟨b21, rfl, rfl⟩
   refine ya (ac_append (s := s) (xs := bytesV (UInt8.ofNat n :: loB k b)) (m := 1 + k) (k := 1) (us := bytesV [UInt8.ofNat (b / 2 ^ (8 * k) % 256)]) (size := 1) rfl rfl (by repeat first | exact .z | apply Pk.s) Tryz.underlying47 Tryz.underlying47 (by intro q hq; cases hq) Tryz.typeInfo5 rfl rfl rfl ?ok24 ?src24 ?one24 ?big24) rfl ?_
   case ok24 => exact ok
   case src24 => exact src_at (by repeat first | exact .z | apply In.s) rfl rfl
   case one24 => exact bytesV_one _
   case big24 => show (_ + _) * 2 ≤ _; omega
   rintro v L' ⟨s22, rfl, ok22, rfl⟩
   rw [← bytesV_append, List.cons_append, ← loB_snoc, show 1 + k + 1 = 1 + (k + 1) by omega] at ok22 ⊢
   refine y (ev_assign rfl) rfl ?_
   refine ynil' (kbn (kthn (hK8 _ _ ?_)))
   clear hK8
   refine creg ?_
   refine y (ev_move rfl) rfl ?_
   refine y (ev_add rfl rfl) rfl ?_
   rw [wr (by omega) (by omega), show ((8 * k : Nat) : Int) + 8 = ((8 * (k + 1) : Nat) : Int) by omega]
   refine y (ev_assign rfl) rfl ?_
   refine ynil' (kthn ?_)
   exact hL1 ((k + 1, s22)) (⟨by dsimp only; unfold rowN at *; omega, ok22⟩) (by dsimp only; unfold rowN at *; omega) _ _ (by repeat first | exact sub_nil | refine sub_cons rfl ?_ | refine sub_cons' rfl (by simp) ?_) (by repeat first | exact .refl | exact .nil | exact .z | apply Pk.s | refine Ge.e ?_ | apply Ge.pick | apply Ge.drop)
  ·(try simp only [sH] at h16)
   refine cexit (kthx (kthx (kbx (kthn ?_))))
   exact ksub (by repeat first | exact sub_nil | refine sub_cons rfl ?_ | refine sub_cons' rfl (by simp) ?_) (by repeat first | exact .refl | exact .nil | exact .z | apply Pk.s | refine Ge.e ?_ | apply Ge.pick | apply Ge.drop) (hJ1 ⟨k, s⟩ ⟨hI1o, by dsimp only; unfold rowN at *; omega⟩)
theorem xLoad [Env] {R : List Seg} {t : Bytes} (ht : t.length ≤ 1000) : Con Tryz.prog 34 [str t] [] R (Is (.tuple #[rowV (loadP t).1 (loadP t).2.1, i64 (loadP t).2.2]) []) := by
  refine con_enter Tryz.func34 Tryz.ntmps34 rfl rfl ?_
  refine cseq ?_; intro K1 hK1
  refine creg ?_
  refine ya (ac_alloc Tryz.zeroValue54 rfl) rfl ?_
  rintro v L' ⟨b2, rfl, rfl⟩
  refine y (ev_assign rfl) rfl ?_
  refine ynil' (kthn (hK1 _ _ ?_))
  clear hK1
  refine cseq ?_; intro K2 hK2
  refine cseq ?_; intro K3 hK3
  refine creg ?_
  refine y (ev_move rfl) rfl ?_
  first
    | refine y (ev_eqlL rfl rfl) rfl ?_
    | refine y (ev_eqlS rfl rfl) rfl ?_
  refine y (ev_move rfl) rfl ?_
  refine ysplit 8 rfl (fun h34 => ?_) (fun h34 => ?_)
  ·(try simp only [sH] at h34)
   have hlp : loadP t = (0, 0, 4) := by have h0 : t = [] := (by simpa using h34); rw [h0]; rfl
   refine yg0 rfl rfl rfl rfl ?_
   refine yg0 rfl rfl rfl rfl ?_
   refine yg0 rfl rfl rfl rfl ?_
   refine y (ev_pick1 rfl rfl) rfl ?_
   refine ynil' (kthn (hK3 _ _ ?_))
   clear hK3
   refine ccond1 rfl ?_
   refine cseq ?_; intro K4 hK4
   refine creg ?_
   refine y (ev_build (vs := [i64 (0 : Nat), u64 0]) (zs := _) rfl Tryz.underlying54 Tryz.zeroValue54 rfl (.cons Tryz.sizeOf3 (.cons Tryz.sizeOf52 .nil)) trivial (by dsimp [fillL, splice, vcells] <;> rfl)) rfl ?_
   refine ya0 (ac_storeAll rfl rfl (u64_one _ _) Tryz.sizeOf54 (by repeat first | exact .z | apply Rp.s) (by rfl) (by rfl)) ?_
   rintro v L' ⟨rfl, rfl⟩
   refine y (ev_assign rfl) rfl ?_
   refine ynil' (kthn (hK4 _ _ ?_))
   clear hK4
   refine cret (kthr ?_)
   first
     | (exfalso; omega; done)
     | (refine kretct Tryz.results34 rfl rfl Tryz.isAgg54 Tryz.sizeOf54 (by repeat first | exact .z | apply In.s) (rfl) (L1 := [] ++ R) (by repeat first | exact .refl | exact .nil | exact .z | apply Pk.s | refine Ge.e ?_ | apply Ge.pick | apply Ge.drop) ?_
        rw [hlp]; exact ⟨_, ⟨rfl, rfl⟩, rfl⟩)
  ·(try simp only [sH] at h34)
   obtain ⟨x, r, rfl⟩ : ∃ x r, t = x :: r := by
     cases t with
     | nil => simp at h34
     | cons x r => exact ⟨x, r, rfl⟩
   have hx8 := x.toNat_lt
   refine yg1 rfl rfl ?_
   refine y (ev_move rfl) rfl ?_
   refine yg1 rfl rfl ?_
   refine y (ev_ixB (u := x) rfl rfl Tryz.underlying9 (by decide) rfl) rfl ?_
   refine yg1 rfl rfl ?_
   refine y (ev_gtr rfl rfl) rfl ?_
   refine y (ev_pick0 rfl rfl) rfl ?_
   refine ynil' (kthn (hK3 _ _ ?_))
   clear hK3
   refine ccond rfl (fun h43 => ?_) (fun h43 => ?_)
   ·(try simp only [sH] at h43)
    have hlp : loadP (x :: r) = (0, 0, 4) := loadP_big (by omega)
    refine cseq ?_; intro K5 hK5
    refine creg ?_
    refine y (ev_build (vs := [i64 (0 : Nat), u64 0]) (zs := _) rfl Tryz.underlying54 Tryz.zeroValue54 rfl (.cons Tryz.sizeOf3 (.cons Tryz.sizeOf52 .nil)) trivial (by dsimp [fillL, splice, vcells] <;> rfl)) rfl ?_
    refine ya0 (ac_storeAll rfl rfl (u64_one _ _) Tryz.sizeOf54 (by repeat first | exact .z | apply Rp.s) (by rfl) (by rfl)) ?_
    rintro v L' ⟨rfl, rfl⟩
    refine y (ev_assign rfl) rfl ?_
    refine ynil' (kthn (hK5 _ _ ?_))
    clear hK5
    refine cret (kthr ?_)
    first
      | (exfalso; omega; done)
      | (refine kretct Tryz.results34 rfl rfl Tryz.isAgg54 Tryz.sizeOf54 (by repeat first | exact .z | apply In.s) (rfl) (L1 := [] ++ R) (by repeat first | exact .refl | exact .nil | exact .z | apply Pk.s | refine Ge.e ?_ | apply Ge.pick | apply Ge.drop) ?_
         rw [hlp]; exact ⟨_, ⟨rfl, rfl⟩, rfl⟩)
   ·(try simp only [sH] at h43)
    refine cskip' (kthn (hK2 _ _ ?_))
    clear hK2
    refine cseq ?_; intro K6 hK6
    refine creg ?_
    refine y (ev_move rfl) rfl ?_
    refine y (ev_ixB (u := x) rfl rfl Tryz.underlying9 (by decide) rfl) rfl ?_
    refine y (ev_conv rfl Tryz.underlying5 Tryz.underlying3) rfl ?_
    rw [wr (by omega) (by omega)]
    refine ycall (xNew (n := x.toNat) ?xn50) rfl Tryz.call33 (by repeat first | exact .nil | exact .z | apply Pk.s | apply Tk.cons) rfl ?_
    case xn50 => omega
    rintro v L' ⟨rfl, rfl⟩
    refine ya (ac_alloc Tryz.zeroValue54 rfl) rfl ?_
    rintro v L' ⟨b4, rfl, rfl⟩
    refine ya0 (ac_storeAll rfl rfl (u64_one _ _) Tryz.sizeOf54 (by repeat first | exact .z | apply Rp.s) (by rfl) (by rfl)) ?_
    rintro v L' ⟨rfl, rfl⟩
    refine ynil' (kthn (hK6 _ _ ?_))
    clear hK6
    refine cseq ?_; intro K7 hK7
    refine cseq ?_; intro K8 hK8
    refine creg ?_
    refine y (ev_move rfl) rfl ?_
    first
      | refine y (ev_lenStr rfl Tryz.underlying9) rfl ?_
      | refine y (ev_lenS rfl Tryz.underlying9) rfl ?_
    refine y (ev_fieldAddr 0 rfl Tryz.underlying54 rfl Tryz.sizeOf3) rfl ?_
    refine y (ev_load rfl Tryz.isAgg3 (by repeat first | exact .z | apply In.s) rfl) rfl ?_
    refine y (ev_add rfl rfl) rfl ?_
    refine y (ev_quo rfl rfl (by decide)) rfl ?_
    refine y (ev_add rfl rfl) rfl ?_
    rw [show IntKind.i64.wrap (1 + IntKind.i64.wrap ((IntKind.i64.wrap (((x.toNat : Nat) : Int) + 7)).tdiv 8)) = ((1 + rowN x.toNat : Nat) : Int) by rw [wr (x := ((x.toNat : Nat) : Int) + 7) (by omega) (by omega), Int.tdiv_eq_ediv_of_nonneg (by omega), wr (x := (((x.toNat : Nat) : Int) + 7) / 8) (by omega) (by omega), wr (by omega) (by omega)]; unfold rowN; omega]
    refine y (ev_neq rfl rfl) rfl ?_
    refine ynil' (kthn (hK8 _ _ ?_))
    clear hK8
    refine ccond rfl (fun h61 => ?_) (fun h61 => ?_)
    ·(try simp only [sH] at h61)
     have hlp : loadP (x :: r) = (0, 0, 4) := loadP_len (by omega) (by simp only [List.length_cons] at h61; omega)
     refine cseq ?_; intro K9 hK9
     refine creg ?_
     refine y (ev_build (vs := [i64 (0 : Nat), u64 0]) (zs := _) rfl Tryz.underlying54 Tryz.zeroValue54 rfl (.cons Tryz.sizeOf3 (.cons Tryz.sizeOf52 .nil)) trivial (by dsimp [fillL, splice, vcells] <;> rfl)) rfl ?_
     refine ya0 (ac_storeAll rfl rfl (u64_one _ _) Tryz.sizeOf54 (by repeat first | exact .z | apply Rp.s) (by rfl) (by rfl)) ?_
     rintro v L' ⟨rfl, rfl⟩
     refine y (ev_assign rfl) rfl ?_
     refine ynil' (kthn (hK9 _ _ ?_))
     clear hK9
     refine cret (kthr ?_)
     first
       | (exfalso; omega; done)
       | (refine kretct Tryz.results34 rfl rfl Tryz.isAgg54 Tryz.sizeOf54 (by repeat first | exact .z | apply In.s) (rfl) (L1 := [] ++ R) (by repeat first | exact .refl | exact .nil | exact .z | apply Pk.s | refine Ge.e ?_ | apply Ge.pick | apply Ge.drop) ?_
          rw [hlp]; exact ⟨_, ⟨rfl, rfl⟩, rfl⟩)
    ·(try simp only [sH] at h61)
     have hrl : r.length = rowN x.toNat := by simp only [List.length_cons] at h61; omega
     have hr8 : rowN x.toNat ≤ 8 := by unfold rowN; omega
     refine cskip' (kthn (hK7 _ _ ?_))
     clear hK7
     refine cseq ?_; intro K10 hK10
     refine cseq ?_; intro K11 hK11
     refine creg ?_
     refine y (ev_move rfl) rfl ?_
     first
       | refine y (ev_lenStr rfl Tryz.underlying9) rfl ?_
       | refine y (ev_lenS rfl Tryz.underlying9) rfl ?_
     refine y (ev_sub rfl rfl) rfl ?_
     rw [show IntKind.i64.wrap ((((x :: r).length : Nat) : Int) - 1) = ((r.length : Nat) : Int) by rw [wr (by simp only [List.length_cons] at *; omega) (by simp only [List.length_cons] at *; omega)]; simp only [List.length_cons]; omega]
     refine y (ev_move rfl) rfl ?_
     refine ynil' (kthn (hK11 _ _ ?_))
     clear hK11
     have hJ1 : ∀ x_ : Nat, ((x_ ≤ r.length) ∧ (x_ = r.length)) → Sk 59 K10 ([(30, i64 x_), (29, i64 r.length), (4, ptr b4), (2, ptr b2), (0, str (x :: r))]) ([sc b4 [i64 x.toNat, u64 (loV (r.take x_))] 54, sc b2 [i64 (0 : Nat), u64 0] 54] ++ R) := by
      rintro k ⟨hI1, hX1⟩
      refine hK10 _ _ ?_
      have hk := hI1
      rw [hX1, List.take_length]
      refine cseq ?_; intro K12 hK12
      refine cseq ?_; intro K13 hK13
      refine creg ?_
      have hlv : loV r < 18446744073709551616 := by
        have h1 := loV_lt r
        rw [pow256] at h1
        have : 2 ^ (8 * r.length) ≤ 2 ^ 64 := Nat.pow_le_pow_right (by omega) (by omega)
        exact Nat.lt_of_lt_of_le h1 this
      refine y (ev_fieldAddr 0 rfl Tryz.underlying54 rfl Tryz.sizeOf3) rfl ?_
      refine y (ev_load rfl Tryz.isAgg3 (by repeat first | exact .z | apply In.s) rfl) rfl ?_
      refine y (ev_lss rfl rfl) rfl ?_
      refine y (ev_move rfl) rfl ?_
      refine ysplit 49 rfl (fun h73 => ?_) (fun h73 => ?_)
      ·(try simp only [sH] at h73)
       refine yg1 rfl rfl ?_
       refine y (ev_fieldAddr 1 rfl Tryz.underlying54 rfl Tryz.sizeOf52) rfl ?_
       refine yg1 rfl rfl ?_
       refine y (ev_load rfl Tryz.isAgg52 (by repeat first | exact .z | apply In.s) rfl) rfl ?_
       refine yg1 rfl rfl ?_
       refine y (ev_fieldAddr 0 rfl Tryz.underlying54 rfl Tryz.sizeOf3) rfl ?_
       refine yg1 rfl rfl ?_
       refine y (ev_load rfl Tryz.isAgg3 (by repeat first | exact .z | apply In.s) rfl) rfl ?_
       refine yg1 rfl rfl ?_
       refine y (ev_shr rfl rfl (by first | decide | omega)) rfl ?_
       rw [shr_u64 (by omega)]
       refine yg1 rfl rfl ?_
       refine y (ev_neq rfl rfl) rfl ?_
       refine y (ev_pick1 rfl rfl) rfl ?_
       refine ynil' (kthn (hK13 _ _ ?_))
       clear hK13
       refine ccond rfl (fun h81 => ?_) (fun h81 => ?_)
       ·(try simp only [sH] at h81)
        refine cseq ?_; intro K14 hK14
        refine creg ?_
        have hlp : loadP (x :: r) = (0, 0, 4) := loadP_odd (by omega) hrl ⟨by omega, by omega⟩
        refine y (ev_build (vs := [i64 (0 : Nat), u64 0]) (zs := _) rfl Tryz.underlying54 Tryz.zeroValue54 rfl (.cons Tryz.sizeOf3 (.cons Tryz.sizeOf52 .nil)) trivial (by dsimp [fillL, splice, vcells] <;> rfl)) rfl ?_
        refine ya0 (ac_storeAll rfl rfl (u64_one _ _) Tryz.sizeOf54 (by repeat first | exact .z | apply Rp.s) (by rfl) (by rfl)) ?_
        rintro v L' ⟨rfl, rfl⟩
        refine y (ev_assign rfl) rfl ?_
        refine ynil' (kthn (hK14 _ _ ?_))
        clear hK14
        refine cret (kthr ?_)
        first
          | (exfalso; omega; done)
          | (refine kretct Tryz.results34 rfl rfl Tryz.isAgg54 Tryz.sizeOf54 (by repeat first | exact .z | apply In.s) (rfl) (L1 := [] ++ R) (by repeat first | exact .refl | exact .nil | exact .z | apply Pk.s | refine Ge.e ?_ | apply Ge.pick | apply Ge.drop) ?_
             rw [hlp]; exact ⟨_, ⟨rfl, rfl⟩, rfl⟩)
       ·(try simp only [sH] at h81)
        refine cskip' (kthn (hK12 _ _ ?_))
        clear hK12
        refine cseq ?_; intro K15 hK15
        refine creg ?_
        have hlp : loadP (x :: r) = (x.toNat, loV r, 0) := loadP_ok (by omega) hrl (by omega)
        refine y (ev_loadN (u := [i64 x.toNat, u64 (loV r)]) rfl Tryz.isAgg54 Tryz.sizeOf54 (by repeat first | exact .z | apply In.s) rfl rfl) rfl ?_
        refine ya0 (ac_storeAll rfl rfl (u64_one _ _) Tryz.sizeOf54 (by repeat first | exact .z | apply Rp.s) (by rfl) (by rfl)) ?_
        rintro v L' ⟨rfl, rfl⟩
        refine y (ev_assign rfl) rfl ?_
        refine ynil' (kthn (hK15 _ _ ?_))
        clear hK15
        refine cret ?_
        first
          | (exfalso; omega; done)
          | (refine kretct Tryz.results34 rfl rfl Tryz.isAgg54 Tryz.sizeOf54 (by repeat first | exact .z | apply In.s) (rfl) (L1 := [] ++ R) (by repeat first | exact .refl | exact .nil | exact .z | apply Pk.s | refine Ge.e ?_ | apply Ge.pick | apply Ge.drop) ?_
             rw [hlp]; exact ⟨_, ⟨rfl, rfl⟩, rfl⟩)
      ·(try simp only [sH] at h73)
       refine yg0 rfl rfl rfl rfl ?_
       refine yg0 rfl rfl rfl rfl ?_
       refine yg0 rfl rfl rfl rfl ?_
       refine yg0 rfl rfl rfl rfl ?_
       refine yg0 rfl rfl rfl rfl ?_
       refine yg0 rfl rfl rfl rfl ?_
       refine y (ev_pick0 rfl rfl) rfl ?_
       refine ynil' (kthn (hK13 _ _ ?_))
       clear hK13
       refine ccond0 rfl ?_
       refine cskip' (kthn (hK12 _ _ ?_))
       clear hK12
       refine cseq ?_; intro K16 hK16
       refine creg ?_
       have hlp : loadP (x :: r) = (x.toNat, loV r, 0) := loadP_ok (by omega) hrl (by omega)
       refine y (ev_loadN (u := [i64 x.toNat, u64 (loV r)]) rfl Tryz.isAgg54 Tryz.sizeOf54 (by repeat first | exact .z | apply In.s) rfl rfl) rfl ?_
       refine ya0 (ac_storeAll rfl rfl (u64_one _ _) Tryz.sizeOf54 (by repeat first | exact .z | apply Rp.s) (by rfl) (by rfl)) ?_
       rintro v L' ⟨rfl, rfl⟩
       refine y (ev_assign rfl) rfl ?_
       refine ynil' (kthn (hK16 _ _ ?_))
       clear hK16
       refine cret ?_
       first
         | (exfalso; omega; done)
         | (refine kretct Tryz.results34 rfl rfl Tryz.isAgg54 Tryz.sizeOf54 (by repeat first | exact .z | apply In.s) (rfl) (L1 := [] ++ R) (by repeat first | exact .refl | exact .nil | exact .z | apply Pk.s | refine Ge.e ?_ | apply Ge.pick | apply Ge.drop) ?_
            rw [hlp]; exact ⟨_, ⟨rfl, rfl⟩, rfl⟩)
     clear hK10
     refine cblock ?_
     refine cloop (A := Nat) (fun x_ => [(30, i64 x_), (29, i64 r.length), (4, ptr b4), (2, ptr b2), (0, str (x :: r))]) (fun x_ => [sc b4 [i64 x.toNat, u64 (loV (r.take x_))] 54, sc b2 [i64 (0 : Nat), u64 0] 54] ++ R) (fun x_ => x_ ≤ r.length) (fun x_ => r.length - x_) (0) ?_ (by repeat first | exact sub_nil | refine sub_cons rfl ?_ | refine sub_cons' rfl (by simp) ?_) (by repeat first | exact .refl | exact .nil | exact .z | apply Pk.s | refine Ge.e ?_ | apply Ge.pick | apply Ge.drop) ?_
     · exact Nat.zero_le _
     rintro k hI1 KL1 hL1
     have hI1o := hI1
     have hk := hI1
     refine cseq ?_; intro K17 hK17
     refine creg ?_
     refine y (ev_lss rfl rfl) rfl ?_
     refine ynil' (kthn (hK17 _ _ ?_))
     clear hK17
     refine cseq ?_; intro K18 hK18
     refine ccond rfl (fun h93 => ?_) (fun h93 => ?_)
     ·(try simp only [sH] at h93)
      refine cskip' (kthn (hK18 _ _ ?_))
      clear hK18
      refine cseq ?_; intro K19 hK19
      refine cblock ?_
      refine cseq ?_; intro K20 hK20
      refine creg ?_
      refine y (ev_move rfl) rfl ?_
      refine y (ev_assign rfl) rfl ?_
      refine ynil' (kthn (hK20 _ _ ?_))
      clear hK20
      refine cdraw 12 [(0, true), (1, true), (2, true), (3, true), (4, true), (5, true), (6, true), (7, true), (8, true), (9, true), (10, true), (11, true)] (_) Tryz.mixed (by kernel_rfl) .refl ?_
      obtain ⟨y0, hy0⟩ : ∃ y, r[k]? = some y := ⟨_, List.getElem?_eq_getElem (by omega)⟩
      have hy8 := y0.toNat_lt
      have hlt := loV_take_lt r k
      have hlt2 := loV_take_lt r (k + 1)
      have hk2 := loV_take hy0
      have h264 : 2 ^ (8 * (k + 1)) ≤ 18446744073709551616 := by have : 2 ^ (8 * (k + 1)) ≤ 2 ^ 64 := Nat.pow_le_pow_right (by omega) (by omega); exact this
      refine hr rfl (ev_fieldAddr 1 rfl Tryz.underlying54 rfl Tryz.sizeOf52) rfl ?_
      refine hr rfl (ev_load rfl Tryz.isAgg52 (by repeat first | exact .z | apply In.s) rfl) rfl ?_
      refine hr rfl (ev_move rfl) rfl ?_
      refine hr rfl (ev_move rfl) rfl ?_
      refine hr rfl (ev_add rfl rfl) rfl ?_
      rw [wr (by omega) (by omega), show ((k : Nat) : Int) + 1 = ((k + 1 : Nat) : Int) by omega]
      refine hr rfl (ev_ixB (u := y0) rfl rfl Tryz.underlying9 (by omega) (by rw [Int.toNat_natCast]; exact hy0)) rfl ?_
      refine hr rfl (ev_conv rfl Tryz.underlying5 Tryz.underlying52) rfl ?_
      rw [wu64, show ((y0.toNat : Nat) : Int) % 18446744073709551616 = ((y0.toNat : Nat) : Int) by omega]
      refine hr rfl (ev_move rfl) rfl ?_
      refine hr rfl (ev_mul rfl rfl) rfl ?_
      rw [wr (by omega) (by omega), show (8 : Int) * (k : Int) = ((8 * k : Nat) : Int) by omega]
      refine hr rfl (ev_shl rfl rfl (by first | decide | omega)) rfl ?_
      rw [show IntKind.u64.wrap (((y0.toNat : Nat) : Int) * 2 ^ (min (((8 * k : Nat) : Int)).toNat IntKind.u64.bits)) = ((y0.toNat * 2 ^ (8 * k) : Nat) : Int) by rw [show min (((8 * k : Nat) : Int)).toNat IntKind.u64.bits = 8 * k by simp [IntKind.bits]; omega, wu64, show ((y0.toNat : Nat) : Int) * (2 : Int) ^ (8 * k) = ((y0.toNat * 2 ^ (8 * k) : Nat) : Int) by simp]; generalize y0.toNat * 2 ^ (8 * k) = z at *; omega]
      refine hr rfl (ev_or rfl rfl) rfl ?_
      rw [orShift hlt (by omega) (by omega), ← hk2]
      refine hr rfl (ev_fieldAddr 1 rfl Tryz.underlying54 rfl Tryz.sizeOf52) rfl ?_
      refine hnil ?_
      refine ya0 (ac_store rfl rfl (by first | rfl | exact svVal_one _ _ | assumption) Tryz.sizeOf52 (by repeat first | exact .z | apply Rp.s) rfl rfl) ?_
      rintro v L' ⟨rfl, rfl⟩
      refine hnoP' (kbn (kthn (hK19 _ _ ?_)))
      clear hK19
      refine creg ?_
      refine y (ev_add rfl rfl) rfl ?_
      rw [show IntKind.i64.wrap ((k:Int) + 1) = ((k+1 : Nat) : Int) by rw [wr (by omega) (by omega)]; rfl]
      refine y (ev_move rfl) rfl ?_
      refine ynil' (kthn ?_)
      exact hL1 (k + 1) (by omega) (by omega) _ _ (by repeat first | exact sub_nil | refine sub_cons rfl ?_ | refine sub_cons' rfl (by simp) ?_) (by repeat first | exact .refl | exact .nil | exact .z | apply Pk.s | refine Ge.e ?_ | apply Ge.pick | apply Ge.drop)
     ·(try simp only [sH] at h93)
      refine cexit (kthx (kthx (kbx (kthn ?_))))
      exact ksub (by repeat first | exact sub_nil | refine sub_cons rfl ?_ | refine sub_cons' rfl (by simp) ?_) (by repeat first | exact .refl | exact .nil | exact .z | apply Pk.s | refine Ge.e ?_ | apply Ge.pick | apply Ge.drop) (hJ1 k ⟨hI1o, by first | trivial | omega⟩)
end W
end Go.Proofs
