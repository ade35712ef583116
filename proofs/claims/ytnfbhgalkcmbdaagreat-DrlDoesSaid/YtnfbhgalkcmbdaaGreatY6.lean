/- A part of the proof: contracts and plain lemmas, each without conditions beyond those that it names. -/
import Derived.Test.YtnfbhgalkcmbdaaGreatY5
set_option linter.unusedVariables false
set_option linter.unusedSimpArgs false
set_option linter.constructorNameAsVariable false
namespace Go.Proofs
open Go Go.Sl
namespace W
set_option linter.unusedVariables false
theorem r7Load [Env] {R : List Seg} {t : Bytes} (ht : t.length ≤ 1000) : Con Tryz.prog 38 [str t] [] R (Is (.tuple #[rrV (loadP t).1 (loadP t).2.1, i64 (loadP t).2.2]) []) := by
  refine con_enter Tryz.func38 Tryz.ntmps38 rfl rfl ?_
  refine cseq ?_; intro K1 hK1
  refine creg ?_
  refine ya (ac_alloc (vs := rowC 0 0) Tryz.zeroValue60 Tryz.zr7) rfl ?_
  rintro v L' ⟨b2, rfl, rfl⟩
  refine y (ev_assign rfl) rfl ?_
  refine ynil' (kthn (hK1 _ _ ?_))
  clear hK1
  refine cseq ?_; intro K2 hK2
  refine cseq ?_; intro K3 hK3
  refine creg ?_
  refine y (ev_move rfl) rfl ?_
  first
    | refine y (ev_lenStr rfl Tryz.underlying9) rfl ?_
    | refine y (ev_lenS rfl Tryz.underlying9) rfl ?_
  refine y (ev_eql rfl rfl) rfl ?_
  refine y (ev_move rfl) rfl ?_
  refine ysplit 11 rfl (fun h7 => ?_) (fun h7 => ?_)
  ·(try simp only [sH] at h7)
   have hlp : loadP t = (0, 0, 4) := by rw [List.eq_nil_of_length_eq_zero (l := t) (by omega)]; exact loadP_nil
   refine yg0 rfl rfl rfl rfl ?_
   refine yg0 rfl rfl rfl rfl ?_
   refine yg0 rfl rfl rfl rfl ?_
   refine y (ev_pick1 rfl rfl) rfl ?_
   refine ynil' (kthn (hK3 _ _ ?_))
   clear hK3
   refine ccond1 rfl ?_
   refine cseq ?_; intro K4 hK4
   refine creg ?_
   refine y (ev_build (zs := rowC 0 0) rfl Tryz.underlying60 Tryz.zeroValue60 Tryz.zr7 (.cons Tryz.sizeOf3 (.cons Tryz.sizeOf58 .nil)) trivial (by dsimp [fillL, splice, vcells] <;> rfl)) rfl ?_
   refine ya0 (ac_storeAll rfl rfl (rowC_one 0 0) Tryz.sizeOf60 (by repeat first | exact .z | apply Rp.s) (rowC_len _ _) (rowC_len _ _)) ?_
   rintro v L' ⟨rfl, rfl⟩
   refine y (ev_assign rfl) rfl ?_
   refine ynil' (kthn (hK4 _ _ ?_))
   clear hK4
   refine cret (kthr ?_)
   first
     | (exfalso; omega; done)
     | (refine kretct Tryz.results38 rfl rfl Tryz.isAgg60 Tryz.sizeOf60 (by repeat first | exact .z | apply In.s) (rfl) (L1 := [] ++ R) (by repeat first | exact .refl | exact .nil | exact .z | apply Pk.s | refine Ge.e ?_ | apply Ge.pick | apply Ge.drop) ?_
        rw [hlp]; exact ⟨_, ⟨rfl, rfl⟩, rfl⟩)
  ·(try simp only [sH] at h7)
   obtain ⟨x, r, rfl⟩ : ∃ x r, t = x :: r := List.exists_cons_of_length_pos (by omega)
   have hxl := x.toNat_lt
   have hlr : (x :: r).length = r.length + 1 := rfl
   refine yg1 rfl rfl ?_
   refine y (ev_move rfl) rfl ?_
   refine yg1 rfl rfl ?_
   refine y (ev_ixB (u := x) rfl rfl Tryz.underlying9 (by decide) rfl) rfl ?_
   refine yg1 rfl rfl ?_
   refine y (ev_gtr rfl rfl) rfl ?_
   refine y (ev_pick0 rfl rfl) rfl ?_
   refine ynil' (kthn (hK3 _ _ ?_))
   clear hK3
   refine ccond rfl (fun h16 => ?_) (fun h16 => ?_)
   ·(try simp only [sH] at h16)
    have hlp : loadP (x :: r) = (0, 0, 4) := loadP_big (by omega)
    refine cseq ?_; intro K5 hK5
    refine creg ?_
    refine y (ev_build (zs := rowC 0 0) rfl Tryz.underlying60 Tryz.zeroValue60 Tryz.zr7 (.cons Tryz.sizeOf3 (.cons Tryz.sizeOf58 .nil)) trivial (by dsimp [fillL, splice, vcells] <;> rfl)) rfl ?_
    refine ya0 (ac_storeAll rfl rfl (rowC_one 0 0) Tryz.sizeOf60 (by repeat first | exact .z | apply Rp.s) (rowC_len _ _) (rowC_len _ _)) ?_
    rintro v L' ⟨rfl, rfl⟩
    refine y (ev_assign rfl) rfl ?_
    refine ynil' (kthn (hK5 _ _ ?_))
    clear hK5
    refine cret (kthr ?_)
    first
      | (exfalso; omega; done)
      | (refine kretct Tryz.results38 rfl rfl Tryz.isAgg60 Tryz.sizeOf60 (by repeat first | exact .z | apply In.s) (rfl) (L1 := [] ++ R) (by repeat first | exact .refl | exact .nil | exact .z | apply Pk.s | refine Ge.e ?_ | apply Ge.pick | apply Ge.drop) ?_
         rw [hlp]; exact ⟨_, ⟨rfl, rfl⟩, rfl⟩)
   ·(try simp only [sH] at h16)
    refine cskip' (kthn (hK2 _ _ ?_))
    clear hK2
    refine cseq ?_; intro K6 hK6
    refine creg ?_
    refine y (ev_move rfl) rfl ?_
    refine y (ev_ixB (u := x) rfl rfl Tryz.underlying9 (by decide) rfl) rfl ?_
    refine y (ev_conv rfl Tryz.underlying5 Tryz.underlying3) rfl ?_
    rw [wr (by omega) (by omega)]
    refine ycall (r7New (n := x.toNat) ?xn23) rfl Tryz.call37 (by repeat first | exact .nil | exact .z | apply Pk.s | apply Tk.cons) rfl ?_
    case xn23 => omega
    rintro v L' ⟨rfl, rfl⟩
    refine ya (ac_alloc (vs := rowC 0 0) Tryz.zeroValue60 Tryz.zr7) rfl ?_
    rintro v L' ⟨b4, rfl, rfl⟩
    refine ya0 (ac_storeAll rfl rfl (rowC_one x.toNat 0) Tryz.sizeOf60 (by repeat first | exact .z | apply Rp.s) (rowC_len _ _) (rowC_len _ _)) ?_
    rintro v L' ⟨rfl, rfl⟩
    refine ynil' (kthn (hK6 _ _ ?_))
    clear hK6
    refine cseq ?_; intro K7 hK7
    refine cseq ?_; intro K8 hK8
    refine creg ?_
    refine y (ev_move rfl) rfl ?_
    first
      | refine y (ev_lenStr rfl Tryz.underlying9) rfl ?_
      | refine y (ev_lenS rfl Tryz.underlying9) rfl ?_
    refine y (ev_sub rfl rfl) rfl ?_
    rw [wr (by omega) (by omega)]
    refine y (ev_fieldAddr 0 rfl Tryz.underlying60 rfl Tryz.sizeOf3) rfl ?_
    refine y (ev_load rfl Tryz.isAgg3 (by repeat first | exact .z | apply In.s) rfl) rfl ?_
    refine y (ev_add rfl rfl) rfl ?_
    rw [wr (by omega) (by omega)]
    refine y (ev_quo rfl rfl (by decide)) rfl ?_
    rw [Int.tdiv_eq_ediv_of_nonneg (by omega), wr (by omega) (by omega), show ((x.toNat : Nat) : Int) + 7 = ((x.toNat + 7 : Nat) : Int) by omega, show (((x.toNat + 7 : Nat) : Int) / 8) = ((rowN x.toNat : Nat) : Int) by unfold rowN; omega]
    refine y (ev_neq rfl rfl) rfl ?_
    refine ynil' (kthn (hK8 _ _ ?_))
    clear hK8
    refine ccond rfl (fun h34 => ?_) (fun h34 => ?_)
    ·(try simp only [sH] at h34)
     refine cseq ?_; intro K9 hK9
     refine creg ?_
     have hlp : loadP (x :: r) = (0, 0, 4) := loadP_len (by omega) (by omega)
     refine y (ev_build (zs := rowC 0 0) rfl Tryz.underlying60 Tryz.zeroValue60 Tryz.zr7 (.cons Tryz.sizeOf3 (.cons Tryz.sizeOf58 .nil)) trivial (by dsimp [fillL, splice, vcells] <;> rfl)) rfl ?_
     refine ya0 (ac_storeAll rfl rfl (rowC_one 0 0) Tryz.sizeOf60 (by repeat first | exact .z | apply Rp.s) (rowC_len _ _) (rowC_len _ _)) ?_
     rintro v L' ⟨rfl, rfl⟩
     refine y (ev_assign rfl) rfl ?_
     refine ynil' (kthn (hK9 _ _ ?_))
     clear hK9
     refine cret (kthr ?_)
     first
       | (exfalso; omega; done)
       | (refine kretct Tryz.results38 rfl rfl Tryz.isAgg60 Tryz.sizeOf60 (by repeat first | exact .z | apply In.s) (rfl) (L1 := [] ++ R) (by repeat first | exact .refl | exact .nil | exact .z | apply Pk.s | refine Ge.e ?_ | apply Ge.pick | apply Ge.drop) ?_
          rw [hlp]; exact ⟨_, ⟨rfl, rfl⟩, rfl⟩)
    ·(try simp only [sH] at h34)
     have hrl : r.length = rowN x.toNat := by omega
     have hrn : rowN x.toNat = (x.toNat + 7) / 8 := rfl
     have hvl := loV_lt r
     rw [pow256] at hvl
     refine cskip' (kthn (hK7 _ _ ?_))
     clear hK7
     refine cseq ?_; intro K10 hK10
     refine cseq ?_; intro K11 hK11
     refine creg ?_
     rw [show rowC x.toNat 0 = rowC x.toNat (loV r % 2 ^ 0) by rw [Nat.pow_zero, Nat.mod_one]]
     refine y (ev_assign rfl) rfl ?_
     refine ynil' (kthn (hK11 _ _ ?_))
     clear hK11
     have hJ1 : ∀ i : Nat, ((i ≤ 8 * r.length ∧ ∀ j, j < i → (loV r).testBit j = true → j < x.toNat) ∧ (i = 8 * r.length)) → Sk 63 K10 ([(5, i64 i), (4, ptr b4), (2, ptr b2), (0, str (x :: r))]) ([sc b2 (rowC 0 0) 60, sc b4 (rowC x.toNat (loV r % 2 ^ i)) 60] ++ R) := by
      rintro i ⟨hI1, hX1⟩
      refine hK10 _ _ ?_
      obtain ⟨hi, hbs⟩ := hI1
      subst hX1; have hlt := lt_of_bits hvl hbs; have hlp : loadP (x :: r) = (x.toNat, loV r, 0) := loadP_ok (by omega) (by omega) (fun hc => hc.2 (Nat.div_eq_of_lt hlt)); rw [Nat.mod_eq_of_lt hvl]
      refine cseq ?_; intro K12 hK12
      refine creg ?_
      refine y (ev_loadN (u := rowC x.toNat (loV r)) rfl Tryz.isAgg60 Tryz.sizeOf60 (by repeat first | exact .z | apply In.s) (by rw [List.drop_zero, List.take_of_length_le (by rw [rowC_len]; decide)]) (rowC_len _ _)) rfl ?_
      refine ya0 (ac_storeAll rfl rfl (rowC_one x.toNat (loV r)) Tryz.sizeOf60 (by repeat first | exact .z | apply Rp.s) (rowC_len _ _) (rowC_len _ _)) ?_
      rintro v L' ⟨rfl, rfl⟩
      refine y (ev_assign rfl) rfl ?_
      refine ynil' (kthn (hK12 _ _ ?_))
      clear hK12
      refine cret ?_
      first
        | (exfalso; omega; done)
        | (refine kretct Tryz.results38 rfl rfl Tryz.isAgg60 Tryz.sizeOf60 (by repeat first | exact .z | apply In.s) (rfl) (L1 := [] ++ R) (by repeat first | exact .refl | exact .nil | exact .z | apply Pk.s | refine Ge.e ?_ | apply Ge.pick | apply Ge.drop) ?_
           rw [hlp]; exact ⟨_, ⟨rfl, rfl⟩, rfl⟩)
     clear hK10
     refine cblock ?_
     refine cloop (A := Nat) (fun i => [(5, i64 i), (4, ptr b4), (2, ptr b2), (0, str (x :: r))]) (fun i => [sc b2 (rowC 0 0) 60, sc b4 (rowC x.toNat (loV r % 2 ^ i)) 60] ++ R) (fun i => i ≤ 8 * r.length ∧ ∀ j, j < i → (loV r).testBit j = true → j < x.toNat) (fun i => 8 * r.length - i) (0) ?_ (by repeat first | exact sub_nil | refine sub_cons rfl ?_ | refine sub_cons' rfl (by simp) ?_) (by repeat first | exact .refl | exact .nil | exact .z | apply Pk.s | refine Ge.e ?_ | apply Ge.pick | apply Ge.drop) ?_
     · exact ⟨Nat.zero_le _, fun j hj => absurd hj (Nat.not_lt_zero _)⟩
     rintro i hI1 KL1 hL1
     have hI1o := hI1
     obtain ⟨hi, hbs⟩ := hI1
     refine cseq ?_; intro K13 hK13
     refine cseq ?_; intro K14 hK14
     refine creg ?_
     refine y (ev_move rfl) rfl ?_
     refine y (ev_move rfl) rfl ?_
     first
       | refine y (ev_lenStr rfl Tryz.underlying9) rfl ?_
       | refine y (ev_lenS rfl Tryz.underlying9) rfl ?_
     refine y (ev_sub rfl rfl) rfl ?_
     rw [wr (by omega) (by omega)]
     refine y (ev_mul rfl rfl) rfl ?_
     rw [wr (by omega) (by omega)]
     refine y (ev_lss rfl rfl) rfl ?_
     refine ynil' (kthn (hK14 _ _ ?_))
     clear hK14
     refine ccond rfl (fun h48 => ?_) (fun h48 => ?_)
     ·(try simp only [sH] at h48)
      obtain ⟨w, hw⟩ : ∃ w, r[i / 8]? = some w := ⟨_, List.getElem?_eq_getElem (by omega)⟩
      have hwl := w.toNat_lt
      have hbi := loV_bit hw
      refine cskip' (kthn (hK13 _ _ ?_))
      clear hK13
      refine cseq ?_; intro K15 hK15
      have hJr8 : ∀ jx : Unit, ((loV r).testBit i = true → i < x.toNat) → Sk 63 K15 ([(5, i64 i), (4, ptr b4), (2, ptr b2), (0, str (x :: r))]) ([sc b2 (rowC 0 0) 60, sc b4 (rowC x.toNat (loV r % 2 ^ (i + 1))) 60] ++ R) := by
       rintro x hIr8
       refine hK15 _ _ ?_
       refine creg ?_
       refine y (ev_move rfl) rfl ?_
       refine y (ev_add rfl rfl) rfl ?_
       rw [show IntKind.i64.wrap ((i:Int) + 1) = ((i+1 : Nat) : Int) by rw [wr (by omega) (by omega)]; rfl]
       refine y (ev_assign rfl) rfl ?_
       refine ynil' (kthn ?_)
       exact hL1 (i + 1) (⟨by omega, fun j hj hb => by rcases Nat.lt_or_ge j i with h1 | h1; exact hbs j h1 hb; exact (show j = i by omega) ▸ hIr8 ((show j = i by omega) ▸ hb)⟩) (by omega) _ _ (by repeat first | exact sub_nil | refine sub_cons rfl ?_ | refine sub_cons' rfl (by simp) ?_) (by repeat first | exact .refl | exact .nil | exact .z | apply Pk.s | refine Ge.e ?_ | apply Ge.pick | apply Ge.drop)
      clear hK15
      refine cblock ?_
      refine cseq ?_; intro K16 hK16
      refine creg ?_
      refine y (ev_move rfl) rfl ?_
      refine y (ev_move rfl) rfl ?_
      refine y (ev_quo rfl rfl (by decide)) rfl ?_
      rw [Int.tdiv_eq_ediv_of_nonneg (by omega), wr (by omega) (by omega), show ((i : Nat) : Int) / 8 = ((i / 8 : Nat) : Int) by omega]
      refine y (ev_add rfl rfl) rfl ?_
      rw [wr (by omega) (by omega)]
      refine y (ev_ixB (u := w) rfl rfl Tryz.underlying9 (by omega) (by rw [show (1 + ((i / 8 : Nat) : Int)).toNat = i / 8 + 1 by omega]; exact hw)) rfl ?_
      refine y (ev_assign rfl) rfl ?_
      refine ynil' (kthn (hK16 _ _ ?_))
      clear hK16
      refine cseq ?_; intro K17 hK17
      refine cseq ?_; intro K18 hK18
      refine creg ?_
      rw [show ((w.toNat : Nat) : Int) = ((w.toNat / 2 ^ 0 : Nat) : Int) by rw [Nat.pow_zero, Nat.div_one]]
      refine y (ev_assign rfl) rfl ?_
      refine ynil' (kthn (hK18 _ _ ?_))
      clear hK18
      have hJ2 : ∀ z : Nat, ((z ≤ i % 8) ∧ (z = i % 8)) → Sk 63 K17 ([(7, i64 z), (6, .int .u8 ((w.toNat / 2 ^ z : Nat) : Int)), (5, i64 i), (4, ptr b4), (2, ptr b2), (0, str (x :: r))]) ([sc b2 (rowC 0 0) 60, sc b4 (rowC x.toNat (loV r % 2 ^ i)) 60] ++ R) := by
       rintro z ⟨hI2, hX2⟩
       refine hK17 _ _ ?_
       have hz := hI2; have hdz : w.toNat / 2 ^ z < 256 := Nat.lt_of_le_of_lt (Nat.div_le_self _ _) hwl
       subst hX2
       refine cseq ?_; intro K19 hK19
       refine creg ?_
       refine y (ev_move rfl) rfl ?_
       refine y (ev_rem (p := ((w.toNat / 2 ^ (i % 8) : Nat) : Int)) (q := 2) rfl rfl (by decide)) rfl ?_
       rw [mod2]
       refine y (ev_eql rfl rfl) rfl ?_
       refine ynil' (kthn (hK19 _ _ ?_))
       clear hK19
       refine ccond rfl (fun h62 => ?_) (fun h62 => ?_)
       ·(try simp only [sH] at h62)
        have hbt : (loV r).testBit i = true := by rw [hbi]; exact decide_eq_true (int1.1 h62)
        refine cseq ?_; intro K20 hK20
        refine cseq ?_; intro K21 hK21
        refine creg ?_
        refine y (ev_move rfl) rfl ?_
        refine y (ev_fieldAddr 0 rfl Tryz.underlying60 rfl Tryz.sizeOf3) rfl ?_
        refine y (ev_load rfl Tryz.isAgg3 (by repeat first | exact .z | apply In.s) rfl) rfl ?_
        refine y (ev_geq rfl rfl) rfl ?_
        refine ynil' (kthn (hK21 _ _ ?_))
        clear hK21
        refine ccond rfl (fun h67 => ?_) (fun h67 => ?_)
        ·(try simp only [sH] at h67)
         refine cseq ?_; intro K22 hK22
         refine creg ?_
         have hlp : loadP (x :: r) = (0, 0, 4) := loadP_odd (by omega) (by omega) ⟨by omega, div_of_bit hbt (by omega)⟩
         refine y (ev_build (zs := rowC 0 0) rfl Tryz.underlying60 Tryz.zeroValue60 Tryz.zr7 (.cons Tryz.sizeOf3 (.cons Tryz.sizeOf58 .nil)) trivial (by dsimp [fillL, splice, vcells] <;> rfl)) rfl ?_
         refine ya0 (ac_storeAll rfl rfl (rowC_one 0 0) Tryz.sizeOf60 (by repeat first | exact .z | apply Rp.s) (rowC_len _ _) (rowC_len _ _)) ?_
         rintro v L' ⟨rfl, rfl⟩
         refine y (ev_assign rfl) rfl ?_
         refine ynil' (kthn (hK22 _ _ ?_))
         clear hK22
         refine cret (kthr (kbr (kthr (kthr (kbr (kthr ?_))))))
         first
           | (exfalso; omega; done)
           | (refine kretct Tryz.results38 rfl rfl Tryz.isAgg60 Tryz.sizeOf60 (by repeat first | exact .z | apply In.s) (rfl) (L1 := [] ++ R) (by repeat first | exact .refl | exact .nil | exact .z | apply Pk.s | refine Ge.e ?_ | apply Ge.pick | apply Ge.drop) ?_
              rw [hlp]; exact ⟨_, ⟨rfl, rfl⟩, rfl⟩)
        ·(try simp only [sH] at h67)
         have hjb : (loV r).testBit i = true → i < x.toNat := fun _ => by omega
         rw [mod_bit, if_pos hbt] at hJr8
         refine cskip' (kthn (hK20 _ _ ?_))
         clear hK20
         refine creg ?_
         refine y (ev_move rfl) rfl ?_
         refine y (ev_fieldAddr 1 rfl Tryz.underlying60 rfl Tryz.sizeOf58) rfl ?_
         refine y (ev_ixAddrA rfl rfl Tryz.underlying58 Tryz.sizeOf4 (by omega) (by omega)) rfl ?_
         refine ya0 (ac_store (vs' := rowC x.toNat (loV r % 2 ^ i ||| 2 ^ i)) rfl rfl rfl Tryz.sizeOf4 (by repeat first | exact .z | apply Rp.s) (by rw [rowC_len, Nat.blt_eq]; omega) (by rw [show 0 + 1 + (i : Int).toNat * 1 = i + 1 by simp; omega]; exact rowC_set (by omega))) ?_
         rintro v L' ⟨rfl, rfl⟩
         refine ynil' (kbn (kthn ?_))
         exact ksub (by repeat first | exact sub_nil | refine sub_cons rfl ?_ | refine sub_cons' rfl (by simp) ?_) (by repeat first | exact .refl | exact .nil | exact .z | apply Pk.s | refine Ge.e ?_ | apply Ge.pick | apply Ge.drop) (hJr8 () hjb)
       ·(try simp only [sH] at h62)
        have hbt : (loV r).testBit i = false := by rw [hbi]; exact decide_eq_false (fun hc => h62 (int1.2 hc))
        have hjb : (loV r).testBit i = true → i < x.toNat := fun hc => by rw [hbt] at hc; cases hc
        rw [mod_bit, if_neg (by rw [hbt]; decide)] at hJr8
        refine cskip' (kbn (kthn ?_))
        exact ksub (by repeat first | exact sub_nil | refine sub_cons rfl ?_ | refine sub_cons' rfl (by simp) ?_) (by repeat first | exact .refl | exact .nil | exact .z | apply Pk.s | refine Ge.e ?_ | apply Ge.pick | apply Ge.drop) (hJr8 () hjb)
      clear hK17
      refine cblock ?_
      refine cloop (A := Nat) (fun z => [(7, i64 z), (6, .int .u8 ((w.toNat / 2 ^ z : Nat) : Int)), (5, i64 i), (4, ptr b4), (2, ptr b2), (0, str (x :: r))]) (fun z => [sc b2 (rowC 0 0) 60, sc b4 (rowC x.toNat (loV r % 2 ^ i)) 60] ++ R) (fun z => z ≤ i % 8) (fun z => i % 8 - z) (0) ?_ (by repeat first | exact sub_nil | refine sub_cons rfl ?_ | refine sub_cons' rfl (by simp) ?_) (by repeat first | exact .refl | exact .nil | exact .z | apply Pk.s | refine Ge.e ?_ | apply Ge.pick | apply Ge.drop) ?_
      · exact Nat.zero_le _
      rintro z hI2 KL2 hL2
      have hI2o := hI2
      have hz := hI2; have hdz : w.toNat / 2 ^ z < 256 := Nat.lt_of_le_of_lt (Nat.div_le_self _ _) hwl
      refine cseq ?_; intro K23 hK23
      refine cseq ?_; intro K24 hK24
      refine creg ?_
      refine y (ev_move rfl) rfl ?_
      refine y (ev_move rfl) rfl ?_
      refine y (ev_rem (p := (i : Int)) (q := 8) rfl rfl (by decide)) rfl ?_
      rw [show (i : Int).tmod 8 = ((i % 8 : Nat) : Int) by rw [Int.tmod_eq_emod_of_nonneg (by omega)]; omega]
      refine y (ev_lss rfl rfl) rfl ?_
      refine ynil' (kthn (hK24 _ _ ?_))
      clear hK24
      refine ccond rfl (fun h79 => ?_) (fun h79 => ?_)
      ·(try simp only [sH] at h79)
       refine cskip' (kthn (hK23 _ _ ?_))
       clear hK23
       refine cseq ?_; intro K25 hK25
       refine cblock ?_
       refine creg ?_
       refine y (ev_move rfl) rfl ?_
       refine y (ev_quo rfl rfl (by decide)) rfl ?_
       rw [half8 hdz, div_next]
       refine y (ev_assign rfl) rfl ?_
       refine ynil' (kbn (kthn (hK25 _ _ ?_)))
       clear hK25
       refine creg ?_
       refine y (ev_move rfl) rfl ?_
       refine y (ev_add rfl rfl) rfl ?_
       rw [show IntKind.i64.wrap ((z:Int) + 1) = ((z+1 : Nat) : Int) by rw [wr (by omega) (by omega)]; rfl]
       refine y (ev_assign rfl) rfl ?_
       refine ynil' (kthn ?_)
       exact hL2 (z + 1) (by omega) (by omega) _ _ (by repeat first | exact sub_nil | refine sub_cons rfl ?_ | refine sub_cons' rfl (by simp) ?_) (by repeat first | exact .refl | exact .nil | exact .z | apply Pk.s | refine Ge.e ?_ | apply Ge.pick | apply Ge.drop)
      ·(try simp only [sH] at h79)
       refine cexit (kthx (kthx (kbx (kthn ?_))))
       exact ksub (by repeat first | exact sub_nil | refine sub_cons rfl ?_ | refine sub_cons' rfl (by simp) ?_) (by repeat first | exact .refl | exact .nil | exact .z | apply Pk.s | refine Ge.e ?_ | apply Ge.pick | apply Ge.drop) (hJ2 z ⟨hI2o, by first | trivial | omega⟩)
     ·(try simp only [sH] at h48)
      refine cexit (kthx (kthx (kbx (kthn ?_))))
      exact ksub (by repeat first | exact sub_nil | refine sub_cons rfl ?_ | refine sub_cons' rfl (by simp) ?_) (by repeat first | exact .refl | exact .nil | exact .z | apply Pk.s | refine Ge.e ?_ | apply Ge.pick | apply Ge.drop) (hJ1 i ⟨hI1o, by first | trivial | omega⟩)
end W
end Go.Proofs
