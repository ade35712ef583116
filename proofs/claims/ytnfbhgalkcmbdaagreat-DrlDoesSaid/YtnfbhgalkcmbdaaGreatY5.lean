/- A part of the proof: contracts and plain lemmas, each without conditions beyond those that it names. -/
import Derived.Test.YtnfbhgalkcmbdaaGreatY4
set_option linter.unusedVariables false
set_option linter.unusedSimpArgs false
set_option linter.constructorNameAsVariable false
namespace Go.Proofs
open Go Go.Sl
namespace W
set_option linter.unusedVariables false
def txt7 (n b k : Nat) : Bytes := UInt8.ofNat n :: loB k b
theorem txt7_succ (n b k : Nat) : txt7 n b (k + 1) = txt7 n b k ++ [UInt8.ofNat (b / 2 ^ (8 * k) % 256)] := by unfold txt7; rw [loB_snoc]; rfl
theorem txt7_len (n b k : Nat) : (txt7 n b k).length = 1 + k := by unfold txt7; rw [List.length_cons, loB_len]; omega
theorem r7Text [Env] {R : List Seg} {n b : Nat} (h : n ≤ 64) (hb : b < 2 ^ n) : Con Tryz.prog 28 [rrV n b] [] R (Is (str (textR n b)) []) := by
  refine con_enter Tryz.func28 Tryz.ntmps28 rfl rfl ?_
  refine cseq ?_; intro K1 hK1
  refine creg ?_
  refine ya (ac_box (vs := rowC n b) rfl rfl) rfl ?_
  rintro v L' ⟨b1, rfl, rfl⟩
  refine y (ev_assign rfl) rfl ?_
  refine ynil' (kthn (hK1 _ _ ?_))
  clear hK1
  refine cseq ?_; intro K2 hK2
  refine creg ?_
  refine y (ev_fieldAddr 0 rfl Tryz.underlying60 rfl Tryz.sizeOf3) rfl ?_
  refine y (ev_load rfl Tryz.isAgg3 (by repeat first | exact .z | apply In.s) rfl) rfl ?_
  refine y (ev_conv rfl Tryz.underlying3 Tryz.underlying5) rfl ?_
  rw [wu8, show ((n : Nat) : Int) % 256 = ((n : Nat) : Int) by omega]
  refine ya (ac_bsliceR rfl Tryz.underlying47 Tryz.sizeOf5 Tryz.zeroValue5 rfl rfl rfl rfl ⟨⟨_, _, rfl, (by first | rfl | simp), (by first | decide | simp)⟩, trivial⟩ (by dsimp [fillL, splice, vcells, reps] <;> rfl)) rfl ?_
  rintro v L' ⟨b10, rfl, rfl⟩
  rw [show [Value.int .u8 ((n : Nat) : Int)] = bytesV (txt7 n b 0) ++ [] by simp [txt7, loB, bytesV]; omega]
  refine y (ev_assign rfl) rfl ?_
  refine ynil' (kthn (hK2 _ _ ?_))
  clear hK2
  refine cseq ?_; intro K3 hK3
  refine cseq ?_; intro K4 hK4
  refine creg ?_
  refine y (ev_assign rfl) rfl ?_
  refine ynil' (kthn (hK4 _ _ ?_))
  clear hK4
  have hJ1 : ∀ x : Nat × Sv, ((x.1 ≤ rowN n ∧ svOk x.2 (txt7 n b x.1).length 1 (bytesV (txt7 n b x.1))) ∧ (x.1 = rowN n)) → Sk 36 K3 ([(4, i64 (8 * x.1 : Nat)), (3, svVal x.2 (txt7 n b x.1).length), (1, ptr b1)]) ([sc b1 (rowC n b) 60, svSeg x.2 5 (bytesV (txt7 n b x.1))] ++ R) := by
   rintro ⟨k, s⟩ ⟨hI1, hX1⟩
   refine hK3 _ _ ?_
   obtain ⟨hk, ok⟩ := hI1; dsimp only at hk ok ⊢; have htl := txt7_len n b k; have hrn : rowN n = (n + 7) / 8 := rfl
   dsimp only at hX1; subst hX1
   refine cseq ?_; intro K5 hK5
   refine creg ?_
   refine y (ev_move rfl) rfl ?_
   refine y (ev_toStrB (rdY_sv (L := [svSeg s 5 (bytesV (txt7 n b (rowN n)))]) .z ok).rd.bytes (by repeat first | exact .refl | exact .nil | exact .z | apply Pk.s | refine Ge.e ?_ | apply Ge.pick | apply Ge.drop) rfl Tryz.underlying47 Tryz.underlying9 Tryz.underlying5) rfl ?_
   refine y (ev_assign rfl) rfl ?_
   refine ynil' (kthn (hK5 _ _ ?_))
   clear hK5
   refine cret ?_
   first
     | (exfalso; omega; done)
     | (refine kretv Tryz.results28 rfl (L1 := [] ++ R) (by repeat first | exact .refl | exact .nil | exact .z | apply Pk.s | refine Ge.e ?_ | apply Ge.pick | apply Ge.drop) ?_
        exact ⟨_, ⟨rfl, rfl⟩, rfl⟩)
  clear hK3
  refine cblock ?_
  refine cloop (A := Nat × Sv) (fun x => [(4, i64 (8 * x.1 : Nat)), (3, svVal x.2 (txt7 n b x.1).length), (1, ptr b1)]) (fun x => [sc b1 (rowC n b) 60, svSeg x.2 5 (bytesV (txt7 n b x.1))] ++ R) (fun x => x.1 ≤ rowN n ∧ svOk x.2 (txt7 n b x.1).length 1 (bytesV (txt7 n b x.1))) (fun x => rowN n - x.1) ((0, some (b10, 1, []))) ?_ (by repeat first | exact sub_nil | refine sub_cons rfl ?_ | refine sub_cons' rfl (by simp) ?_) (by repeat first | exact .refl | exact .nil | exact .z | apply Pk.s | refine Ge.e ?_ | apply Ge.pick | apply Ge.drop) ?_
  · exact ⟨Nat.zero_le _, Nat.le_refl _, by decide, rfl, rfl⟩
  rintro ⟨k, s⟩ hI1 KL1 hL1
  have hI1o := hI1
  obtain ⟨hk, ok⟩ := hI1; dsimp only at hk ok ⊢; have htl := txt7_len n b k; have hrn : rowN n = (n + 7) / 8 := rfl
  refine cseq ?_; intro K6 hK6
  refine cseq ?_; intro K7 hK7
  refine creg ?_
  refine y (ev_move rfl) rfl ?_
  refine y (ev_fieldAddr 0 rfl Tryz.underlying60 rfl Tryz.sizeOf3) rfl ?_
  refine y (ev_load rfl Tryz.isAgg3 (by repeat first | exact .z | apply In.s) rfl) rfl ?_
  refine y (ev_lss rfl rfl) rfl ?_
  refine ynil' (kthn (hK7 _ _ ?_))
  clear hK7
  refine ccond rfl (fun h16 => ?_) (fun h16 => ?_)
  ·(try simp only [sH] at h16)
   refine cskip' (kthn (hK6 _ _ ?_))
   clear hK6
   refine cseq ?_; intro K8 hK8
   refine cblock ?_
   refine cseq ?_; intro K9 hK9
   refine creg ?_
   refine y (ev_assign rfl) rfl ?_
   refine ynil' (kthn (hK9 _ _ ?_))
   clear hK9
   refine cseq ?_; intro K10 hK10
   refine cseq ?_; intro K11 hK11
   refine creg ?_
   refine y (ev_assign rfl) rfl ?_
   refine ynil' (kthn (hK11 _ _ ?_))
   clear hK11
   have hJ2 : ∀ z : Nat × Nat, ((z.1 ≤ 8 ∧ z.2 = b / 2 ^ (8 * k + (8 - z.1)) % 2 ^ z.1) ∧ (z.1 = 8)) → Sk 36 K10 ([(6, i64 (7 - (z.1 : Int))), (5, .int .u8 (z.2 : Nat)), (4, i64 (8 * k : Nat)), (3, svVal s (txt7 n b k).length), (1, ptr b1)]) ([sc b1 (rowC n b) 60, svSeg s 5 (bytesV (txt7 n b k))] ++ R) := by
    rintro ⟨z, u⟩ ⟨hI2, hX2⟩
    refine hK10 _ _ ?_
    obtain ⟨hz, hu⟩ := hI2; dsimp only at hz hu ⊢
    dsimp only at hX2; subst hX2; rw [Nat.sub_self, Nat.add_zero] at hu
    refine creg ?_
    refine y (ev_move rfl) rfl ?_
    refine y (ev_move rfl) rfl ?_
    refine ya (ac_bsliceR rfl Tryz.underlying47 Tryz.sizeOf5 Tryz.zeroValue5 rfl rfl rfl rfl ⟨⟨_, _, rfl, (by first | rfl | simp), (by first | decide | simp)⟩, trivial⟩ (by dsimp [fillL, splice, vcells, reps] <;> rfl)) rfl ?_
    rintro v L' ⟨b32, rfl, rfl⟩
    refine ya (ac_append (s := s) (xs := bytesV (txt7 n b k)) (m := (txt7 n b k).length) (k := 1) (us := [.int .u8 ((u : Nat) : Int)]) (size := 1) rfl rfl (by repeat first | exact .z | apply Pk.s) Tryz.underlying47 Tryz.underlying47 (by intro q hq; cases hq) Tryz.typeInfo5 rfl rfl rfl ?ok22 ?src22 ?one22 ?big22) rfl ?_
    case ok22 => exact ok
    case src22 => exact src_at (by repeat first | exact .z | apply In.s) rfl rfl
    case one22 => intro v hv; simp at hv; subst hv; rfl
    case big22 => show (_ + _) * 2 ≤ _; omega
    rintro v L' ⟨s33, rfl, ok33, rfl⟩
    have hu4 : u < 256 := by rw [hu]; exact Nat.mod_lt _ (by decide)
    have hte : bytesV (txt7 n b k) ++ [Value.int .u8 ((u : Nat) : Int)] = bytesV (txt7 n b (k + 1)) := by rw [txt7_succ, hu, bytesV_append]; simp [bytesV]
    rw [hte, show (txt7 n b k).length + 1 = (txt7 n b (k + 1)).length by rw [txt7_len, txt7_len]; omega] at ok33 ⊢
    refine y (ev_assign rfl) rfl ?_
    refine ynil' (kbn (kthn (hK8 _ _ ?_)))
    clear hK8
    refine creg ?_
    refine y (ev_move rfl) rfl ?_
    refine y (ev_add rfl rfl) rfl ?_
    rw [wr (by omega) (by omega), show ((8 * k : Nat) : Int) + 8 = ((8 * (k + 1) : Nat) : Int) by omega]
    refine y (ev_assign rfl) rfl ?_
    refine ynil' (kthn ?_)
    exact hL1 ((k + 1, s33)) (⟨by dsimp only; omega, ok33⟩) (by dsimp only; omega) _ _ (by repeat first | exact sub_nil | refine sub_cons rfl ?_ | refine sub_cons' rfl (by simp) ?_) (by repeat first | exact .refl | exact .nil | exact .z | apply Pk.s | refine Ge.e ?_ | apply Ge.pick | apply Ge.drop)
   clear hK10
   refine cblock ?_
   refine cloop (A := Nat × Nat) (fun z => [(6, i64 (7 - (z.1 : Int))), (5, .int .u8 (z.2 : Nat)), (4, i64 (8 * k : Nat)), (3, svVal s (txt7 n b k).length), (1, ptr b1)]) (fun z => [sc b1 (rowC n b) 60, svSeg s 5 (bytesV (txt7 n b k))] ++ R) (fun z => z.1 ≤ 8 ∧ z.2 = b / 2 ^ (8 * k + (8 - z.1)) % 2 ^ z.1) (fun z => 8 - z.1) ((0, 0)) ?_ (by repeat first | exact sub_nil | refine sub_cons rfl ?_ | refine sub_cons' rfl (by simp) ?_) (by repeat first | exact .refl | exact .nil | exact .z | apply Pk.s | refine Ge.e ?_ | apply Ge.pick | apply Ge.drop) ?_
   · exact ⟨Nat.zero_le _, (Nat.mod_one _).symm⟩
   rintro ⟨z, u⟩ hI2 KL2 hL2
   have hI2o := hI2
   obtain ⟨hz, hu⟩ := hI2; dsimp only at hz hu ⊢
   refine cseq ?_; intro K12 hK12
   refine cseq ?_; intro K13 hK13
   refine creg ?_
   refine y (ev_move rfl) rfl ?_
   refine y (ev_geq rfl rfl) rfl ?_
   refine ynil' (kthn (hK13 _ _ ?_))
   clear hK13
   refine ccond rfl (fun h29 => ?_) (fun h29 => ?_)
   ·(try simp only [sH] at h29)
    have hz8 : z < 8 := by omega
    have hst := bits_step b (8 * k + (8 - (z + 1))) z
    rw [show 8 * k + (8 - (z + 1)) + 1 = 8 * k + (8 - z) by omega, ← hu] at hst
    have hu2 : u < 2 ^ z := by rw [hu]; exact Nat.mod_lt _ (Nat.two_pow_pos _)
    have hu3 : 2 ^ z ≤ 128 := Nat.pow_le_pow_right (by decide) (show z ≤ 7 by omega)
    refine cskip' (kthn (hK12 _ _ ?_))
    clear hK12
    refine cseq ?_; intro K14 hK14
    have hJr8 : ∀ x : Unit, (True) → Sk 36 K14 ([(6, i64 (7 - (z : Int))), (5, .int .u8 ((b / 2 ^ (8 * k + (8 - (z + 1))) % 2 ^ (z + 1) : Nat) : Int)), (4, i64 (8 * k : Nat)), (3, svVal s (txt7 n b k).length), (1, ptr b1)]) ([sc b1 (rowC n b) 60, svSeg s 5 (bytesV (txt7 n b k))] ++ R) := by
     rintro x hIr8
     refine hK14 _ _ ?_
     refine creg ?_
     refine y (ev_move rfl) rfl ?_
     refine y (ev_sub rfl rfl) rfl ?_
     rw [wr (by omega) (by omega), show 7 - (z : Int) - 1 = 7 - ((z + 1 : Nat) : Int) by omega]
     refine y (ev_assign rfl) rfl ?_
     refine ynil' (kthn ?_)
     exact hL2 ((z + 1, b / 2 ^ (8 * k + (8 - (z + 1))) % 2 ^ (z + 1))) (⟨by dsimp only; omega, rfl⟩) (by dsimp only; omega) _ _ (by repeat first | exact sub_nil | refine sub_cons rfl ?_ | refine sub_cons' rfl (by simp) ?_) (by repeat first | exact .refl | exact .nil | exact .z | apply Pk.s | refine Ge.e ?_ | apply Ge.pick | apply Ge.drop)
    clear hK14
    refine cblock ?_
    refine cseq ?_; intro K15 hK15
    refine creg ?_
    refine y (ev_move rfl) rfl ?_
    refine y (ev_mul rfl rfl) rfl ?_
    rw [wu8, show ((u : Nat) : Int) * 2 % 256 = ((2 * u : Nat) : Int) by omega]
    refine y (ev_assign rfl) rfl ?_
    refine ynil' (kthn (hK15 _ _ ?_))
    clear hK15
    refine cseq ?_; intro K16 hK16
    refine creg ?_
    refine y (ev_loadN (u := rowC n b) rfl Tryz.isAgg60 Tryz.sizeOf60 (by repeat first | exact .z | apply In.s) (by rw [List.drop_zero, List.take_of_length_le (by rw [rowC_len]; decide)]) (rowC_len _ _)) rfl ?_
    refine y (ev_move rfl) rfl ?_
    refine y (ev_move rfl) rfl ?_
    refine y (ev_add rfl rfl) rfl ?_
    rw [wr (by omega) (by omega), show ((8 * k : Nat) : Int) + (7 - (z : Int)) = ((8 * k + (8 - (z + 1)) : Nat) : Int) by omega]
    refine ycall (r7Has (n := n) (b := b) ?xn40) rfl Tryz.call52 (by repeat first | exact .nil | exact .z | apply Pk.s | apply Tk.cons) rfl ?_
    case xn40 => exact h
    rintro v L' ⟨rfl, rfl⟩
    rw [hasR_bit hb]
    refine ynil' (kthn (hK16 _ _ ?_))
    clear hK16
    refine ccond rfl (fun h41 => ?_) (fun h41 => ?_)
    ·(try simp only [sH] at h41)
     rw [if_pos h41] at hst
     refine creg ?_
     refine y (ev_move rfl) rfl ?_
     refine y (ev_add rfl rfl) rfl ?_
     rw [wu8, show ((2 * u : Nat) : Int) + 1 = ((2 * u + 1 : Nat) : Int) by omega, show ((2 * u + 1 : Nat) : Int) % 256 = ((2 * u + 1 : Nat) : Int) by omega]
     refine y (ev_assign rfl) rfl ?_
     refine ynil' (kbn (kthn ?_))
     rw [hst] at hJr8; exact ksub (by repeat first | exact sub_nil | refine sub_cons rfl ?_ | refine sub_cons' rfl (by simp) ?_) (by repeat first | exact .refl | exact .nil | exact .z | apply Pk.s | refine Ge.e ?_ | apply Ge.pick | apply Ge.drop) (hJr8 () trivial)
    ·(try simp only [sH] at h41)
     rw [if_neg (by rw [h41]; decide), Nat.add_zero] at hst
     refine cskip' (kbn (kthn ?_))
     rw [hst] at hJr8; exact ksub (by repeat first | exact sub_nil | refine sub_cons rfl ?_ | refine sub_cons' rfl (by simp) ?_) (by repeat first | exact .refl | exact .nil | exact .z | apply Pk.s | refine Ge.e ?_ | apply Ge.pick | apply Ge.drop) (hJr8 () trivial)
   ·(try simp only [sH] at h29)
    refine cexit (kthx (kthx (kbx (kthn ?_))))
    exact ksub (by repeat first | exact sub_nil | refine sub_cons rfl ?_ | refine sub_cons' rfl (by simp) ?_) (by repeat first | exact .refl | exact .nil | exact .z | apply Pk.s | refine Ge.e ?_ | apply Ge.pick | apply Ge.drop) (hJ2 ⟨z, u⟩ ⟨hI2o, by first | trivial | omega⟩)
  ·(try simp only [sH] at h16)
   refine cexit (kthx (kthx (kbx (kthn ?_))))
   exact ksub (by repeat first | exact sub_nil | refine sub_cons rfl ?_ | refine sub_cons' rfl (by simp) ?_) (by repeat first | exact .refl | exact .nil | exact .z | apply Pk.s | refine Ge.e ?_ | apply Ge.pick | apply Ge.drop) (hJ1 ⟨k, s⟩ ⟨hI1o, by first | trivial | omega⟩)
end W
end Go.Proofs
