/- A part of the proof: contracts and plain lemmas, each without conditions beyond those that it names. -/
import Derived.Test.YtediodfmkbfomaaGreatT1
import Derived.Test.YtediodfmkbfomaaGreatGF
import Derived.Test.YtediodfmkbfomaaGreatGE
set_option linter.unusedVariables false
set_option linter.unusedSimpArgs false
set_option linter.constructorNameAsVariable false
namespace Go.Proofs
open Go Go.Sl
namespace W
set_option linter.unusedVariables false
theorem cOn [Env] {R : List Seg} {s : Nat} {b : UInt8} (hs : s < 4294967296) : Con Tryz.prog 118 [.int .u32 s, .int .u8 b.toNat] [] R (Is (.int .u32 (crcOn s b)) []) := by
 have hb := b.toNat_lt
 have hx : s ^^^ b.toNat < 4294967296 := Nat.xor_lt_two_pow (n := 32) hs (by omega)
 refine con_enter Tryz.func118 Tryz.ntmps118 rfl rfl ?_
 refine cseq ?_; intro K1 hK1
 refine creg ?_
 refine yas ?_
 refine ynil' (kthn (hK1 _ _ ?_))
 clear hK1
 refine cseq ?_; intro K2 hK2
 refine creg ?_
 refine ymv ?_
 refine ymv ?_
 refine y (ev_conv rfl Tryz.underlying5 Tryz.underlying163) rfl ?_
 refine y (ev_xor rfl rfl) rfl ?_
 rw [wu32, show ((b.toNat : Nat) : Int) % 4294967296 = ((b.toNat : Nat) : Int) by omega, bXor_u rfl (show s < 2 ^ IntKind.u32.bits from hs) (show b.toNat < 2 ^ IntKind.u32.bits by show _ < 4294967296; omega)]
 refine yas ?_
 refine ynil' (kthn (hK2 _ _ ?_))
 clear hK2
 refine cseq ?_; intro K3 hK3
 refine cseq ?_; intro K4 hK4
 refine creg ?_
 refine ymv ?_
 refine ynil' (kthn (hK4 _ _ ?_))
 clear hK4
 have hJ1 : ∀ x : Nat, ((x ≤ 8) ∧ (x = 8)) → Sk 22 K3 ([(10, i64 x), (0, .int .u32 (crcN x (s ^^^ b.toNat)))]) (R) := by
  rintro k ⟨hI1, hX1⟩
  refine hK3 _ _ ?_
  have hk := hI1; have hn := crcN_lt hx k
  subst hX1
  refine cseq ?_; intro K5 hK5
  refine creg ?_
  refine ymv ?_
  refine yas ?_
  refine ynil' (kthn (hK5 _ _ ?_))
  clear hK5
  refine cret ?_
  first
    | (exfalso; omega; done)
    | (refine kretv Tryz.results118 rfl (L1 := R) zge ?_
       exact ⟨_, ⟨by rfl, rfl⟩, by rfl⟩)
 clear hK3
 refine cblock ?_
 refine cloop (A := Nat) (fun x => [(10, i64 x), (0, .int .u32 (crcN x (s ^^^ b.toNat)))]) (fun x => R) (fun x => x ≤ 8) (fun x => 8 - x) (0) ?_ zsub zge ?_
 · exact Nat.zero_le _
 rintro k hI1 KL1 hL1
 have hI1o := hI1
 have hk := hI1; have hn := crcN_lt hx k
 refine cseq ?_; intro K6 hK6
 refine creg ?_
 refine y (ev_lss rfl rfl) rfl ?_
 refine ynil' (kthn (hK6 _ _ ?_))
 clear hK6
 refine cseq ?_; intro K7 hK7
 refine ccond rfl (fun h11 => ?_) (fun h11 => ?_)
 ·(try simp only [sH] at h11)
  refine cskip' (kthn (hK7 _ _ ?_))
  clear hK7
  refine cseq ?_; intro K8 hK8
  refine cblock ?_
  refine cseq ?_; intro K9 hK9
  refine creg ?_
  refine ymv ?_
  refine y (ev_and rfl rfl) rfl ?_
  refine yas ?_
  refine ynil' (kthn (hK9 _ _ ?_))
  clear hK9
  refine cseq ?_; intro K10 hK10
  refine creg ?_
  refine ymv ?_
  refine y (ev_shr rfl rfl (by first | decide | omega)) rfl ?_
  rw [show (crcN k (s ^^^ b.toNat) : Int).fdiv (2 ^ (min (1 : Int).toNat IntKind.u32.bits)) = ((crcN k (s ^^^ b.toNat) / 2 : Nat) : Int) by exact fdiv2 (k := 2)]
  have hcb := crcBit_bits hn
  refine yas ?_
  refine ynil' (kthn (hK10 _ _ ?_))
  clear hK10
  refine cseq ?_; intro K11 hK11
  refine creg ?_
  refine ymv ?_
  refine y (ev_eql rfl rfl) rfl ?_
  refine ynil' (kthn (hK11 _ _ ?_))
  clear hK11
  refine ccond rfl (fun h20 => ?_) (fun h20 => ?_)
  ·(try simp only [sH] at h20)
   rw [if_pos h20] at hcb
   refine creg ?_
   refine ymv ?_
   refine y (ev_xor rfl rfl) rfl ?_
   rw [hcb]
   refine yas ?_
   refine ynil' (kbn (kthn (hK8 _ _ ?_)))
   clear hK8
   refine creg ?_
   refine y (ev_add rfl rfl) rfl ?_
   rw [show IntKind.i64.wrap ((k:Int) + 1) = ((k+1 : Nat) : Int) by rw [wr (by omega) (by omega)]; rfl]
   refine ymv ?_
   refine ynil' (kthn ?_)
   exact hL1 (k + 1) ((show k + 1 ≤ 8 by omega)) (by omega) _ _ zsub zge
  ·(try simp only [sH] at h20)
   rw [if_neg h20] at hcb
   rw [hcb]
   refine cskip' (kbn (kthn (hK8 _ _ ?_)))
   clear hK8
   refine creg ?_
   refine y (ev_add rfl rfl) rfl ?_
   rw [show IntKind.i64.wrap ((k:Int) + 1) = ((k+1 : Nat) : Int) by rw [wr (by omega) (by omega)]; rfl]
   refine ymv ?_
   refine ynil' (kthn ?_)
   exact hL1 (k + 1) ((show k + 1 ≤ 8 by omega)) (by omega) _ _ zsub zge
 ·(try simp only [sH] at h11)
  refine cexit (kthx (kthx (kbx (kthn ?_))))
  exact ksub zsub zge (hJ1 k ⟨hI1o, by first | trivial | omega⟩)
theorem cMore [Env] {R : List Seg} {s : Nat} {v : Value} {bs : Bytes} (hb : RdV R v bs.length (bytesV bs)) (hs : s < 4294967296) (hl : bs.length < 1000000) : Con Tryz.prog 104 [.int .u32 s, v] [] R (Is (.int .u32 (crcMore s bs)) []) := by
 refine con_enter Tryz.func104 Tryz.ntmps104 rfl rfl ?_
 refine cseq ?_; intro K1 hK1
 refine creg ?_
 refine yas ?_
 refine ynil' (kthn (hK1 _ _ ?_))
 clear hK1
 refine cseq ?_; intro K2 hK2
 refine creg ?_
 refine ymv ?_
 refine y (ev_cpl rfl) rfl ?_
 rw [cpl32 hs]
 refine yas ?_
 refine ynil' (kthn (hK2 _ _ ?_))
 clear hK2
 refine cseq ?_; intro K3 hK3
 refine cseq ?_; intro K4 hK4
 refine creg ?_
 refine ymv ?_
 first
   | refine y (ev_len rfl Tryz.underlying22) rfl ?_
   | refine y (ev_lenSv rfl Tryz.underlying22 (by assumption)) rfl ?_
   | refine y (ev_lenV rfl Tryz.underlying22 (RdV.lenVal (by assumption))) rfl ?_
   | refine y (ev_lenV rfl Tryz.underlying22 (RdB.lenVal (by assumption))) rfl ?_
 refine ymv ?_
 refine ynil' (kthn (hK4 _ _ ?_))
 clear hK4
 have hJ1 : ∀ x : Nat, ((x ≤ bs.length) ∧ (x = bs.length)) → Sk 22 K3 ([(12, i64 x), (11, i64 bs.length), (10, v), (5, .int .u32 (((bs.take x).foldl crcOn (4294967295 - s) : Nat)))]) (R) := by
  rintro k ⟨hI1, hX1⟩
  refine hK3 _ _ ?_
  have hk := hI1
  subst hX1; rw [List.take_length]
  refine cseq ?_; intro K5 hK5
  refine creg ?_
  refine ymv ?_
  refine y (ev_cpl rfl) rfl ?_
  rw [cpl32 (crcFold_lt (by omega))]
  refine yas ?_
  refine ynil' (kthn (hK5 _ _ ?_))
  clear hK5
  refine cret ?_
  first
    | (exfalso; omega; done)
    | (refine kretv Tryz.results104 rfl (L1 := R) zge ?_
       exact ⟨_, ⟨by rfl, rfl⟩, by rfl⟩)
 clear hK3
 refine cblock ?_
 refine cloop (A := Nat) (fun x => [(12, i64 x), (11, i64 bs.length), (10, v), (5, .int .u32 (((bs.take x).foldl crcOn (4294967295 - s) : Nat)))]) (fun x => R) (fun x => x ≤ bs.length) (fun x => bs.length - x) (0) ?_ zsub zge ?_
 · exact Nat.zero_le _
 rintro k hI1 KL1 hL1
 have hI1o := hI1
 have hk := hI1
 refine cseq ?_; intro K6 hK6
 refine creg ?_
 refine y (ev_lss rfl rfl) rfl ?_
 refine ynil' (kthn (hK6 _ _ ?_))
 clear hK6
 refine cseq ?_; intro K7 hK7
 refine ccond rfl (fun h39 => ?_) (fun h39 => ?_)
 ·(try simp only [sH] at h39)
  refine cskip' (kthn (hK7 _ _ ?_))
  clear hK7
  refine cseq ?_; intro K8 hK8
  refine cblock ?_
  refine cseq ?_; intro K9 hK9
  refine creg ?_
  first
    | refine y (ev_ixAddr rfl rfl Tryz.underlying22 Tryz.sizeOf5 (by omega) (by omega)) rfl ?_
    | refine y (ev_ixV (by assumption) rfl rfl Tryz.underlying22 Tryz.sizeOf5 (by omega) (by omega)) rfl ?_
  refine y (ev_loadV k hb zge rfl Tryz.isAgg5 (by simp) (bytesV_get (by omega))) rfl ?_
  refine yas ?_
  refine ynil' (kthn (hK9 _ _ ?_))
  clear hK9
  refine creg ?_
  refine ymv ?_
  refine ymv ?_
  refine ycall (cOn ?lt45) rfl Tryz.call118 ztk rfl ?_
  case lt45 => exact crcFold_lt (by omega)
  rintro v L' ⟨rfl, rfl⟩
  rw [show crcOn (List.foldl crcOn (4294967295 - s) (bs.take k)) (bs[k]?.getD 0) = List.foldl crcOn (4294967295 - s) (bs.take (k + 1)) by rw [List.take_add_one, List.foldl_append, List.getElem?_eq_getElem (by omega)]; rfl]
  refine yas ?_
  refine ynil' (kbn (kthn (hK8 _ _ ?_)))
  clear hK8
  refine creg ?_
  refine y (ev_add rfl rfl) rfl ?_
  rw [show IntKind.i64.wrap ((k:Int) + 1) = ((k+1 : Nat) : Int) by rw [wr (by omega) (by omega)]; rfl]
  refine ymv ?_
  refine ynil' (kthn ?_)
  exact hL1 (k + 1) ((show k + 1 ≤ bs.length by omega)) (by omega) _ _ zsub zge
 ·(try simp only [sH] at h39)
  refine cexit (kthx (kthx (kbx (kthn ?_))))
  exact ksub zsub zge (hJ1 k ⟨hI1o, by first | trivial | omega⟩)
theorem cSum [Env] {R : List Seg} {v : Value} {bs : Bytes} (hb : RdV R v bs.length (bytesV bs)) (hl : bs.length < 1000000) : Con Tryz.prog 92 [v] [] R (Is (.int .u32 (sumM bs)) []) := by
 refine con_enter Tryz.func92 Tryz.ntmps92 rfl rfl ?_
 refine cseq ?_; intro K1 hK1
 refine creg ?_
 refine yas ?_
 refine ynil' (kthn (hK1 _ _ ?_))
 clear hK1
 refine cseq ?_; intro K2 hK2
 refine creg ?_
 refine ymv ?_
 refine ycall (cMore (s := 0) (bs := bs) ?bs51 ?lt51 ?len51) rfl Tryz.call104 ztk rfl ?_
 case bs51 => exact hb.mono zge
 case lt51 => decide
 case len51 => omega
 rintro v L' ⟨rfl, rfl⟩
 refine yas ?_
 refine ynil' (kthn (hK2 _ _ ?_))
 clear hK2
 refine cret ?_
 first
   | (exfalso; omega; done)
   | (refine kretv Tryz.results92 rfl (L1 := R) zge ?_
      exact ⟨_, ⟨by rfl, rfl⟩, by rfl⟩)
theorem cCheck [Env] {R : List Seg} {v : Value} {bs : Bytes} {s : Nat} (hb : RdV R v bs.length (bytesV bs)) (hl : bs.length < 1000000) : Con Tryz.prog 97 [v, .int .u32 s] [] R (Is (.bool (decide (sumM bs = s))) []) := by
 refine con_enter Tryz.func97 Tryz.ntmps97 rfl rfl ?_
 refine cseq ?_; intro K1 hK1
 refine creg ?_
 refine yas ?_
 refine ynil' (kthn (hK1 _ _ ?_))
 clear hK1
 refine cseq ?_; intro K2 hK2
 refine creg ?_
 refine ymv ?_
 refine ycall (cSum (bs := bs) ?bs55 ?len55) rfl Tryz.call92 ztk rfl ?_
 case bs55 => exact hb.mono zge
 case len55 => omega
 rintro v L' ⟨rfl, rfl⟩
 refine ymv ?_
 refine y (ev_eql rfl rfl) rfl ?_
 refine yas ?_
 refine ynil' (kthn (hK2 _ _ ?_))
 clear hK2
 refine cret ?_
 first
   | (exfalso; omega; done)
   | (refine kretv Tryz.results97 rfl (L1 := R) zge ?_
      exact ⟨_, ⟨by first | rfl | (simp; omega), rfl⟩, by first | rfl | (simp; omega)⟩)
end W
end Go.Proofs
namespace Go.Proofs
open Go Go.Sl
namespace W
set_option linter.unusedVariables false
theorem cNumber [Env] {R R0 : List Seg} {p : Nat} {v : Value} {bs : Bytes} (hg : Ge R R0) (hb : RdY R0 v bs) :
   ConP Tryz.prog 99 [ptr p] [rdrP p v] R (fun u L' => ∃ q v', numD 0 bs = some q ∧ RdY R0 v' q.2 ∧ u = i64 (zag q.1) ∧ L' = [rdrP p v']) badV (fun L' => numD 0 bs = none ∧ ∃ v', L' = [rdrP p v']) := by
 refine conP_enter Tryz.func99 Tryz.ntmps99 rfl rfl ?_
 refine cseq ?_; intro K1 hK1
 refine creg ?_
 refine yas ?_
 refine ynil' (kthn (hK1 _ _ ?_))
 clear hK1
 refine cseq ?_; intro K2 hK2
 refine creg ?_
 refine yas ?_
 refine ynil' (kthn (hK2 _ _ ?_))
 clear hK2
 refine cseq ?_; intro K3 hK3
 refine creg ?_
 refine yas ?_
 refine ynil' (kthn (hK3 _ _ ?_))
 clear hK3
 refine cblock ?_
 refine cloop (A := Nat × Nat × Value × Bytes) (fun x => [(4, i64 ((7 * x.1 : Nat))), (3, .int .u64 (x.2.1 : Nat)), (0, ptr p)]) (fun x => [rdrP p x.2.2.1] ++ R) (fun x => RdY R0 x.2.2.1 x.2.2.2 ∧ NumI bs x.1 x.2.1 x.2.2.2) (fun x => 10 - x.1) ((0, 0, v, bs)) ?_ zsub zge ?_
 · exact ⟨hb, .zero bs⟩
 rintro ⟨k, u, v1, b1⟩ hI1 KL1 hL1
 obtain ⟨hb1, hi1⟩ := hI1; dsimp only at hb1 hi1 ⊢; have hk9 := hi1.k9; have hbR := hb1.mono hg
 refine cseq ?_; intro K4 hK4
 refine cblock ?_
 refine cseq ?_; intro K5 hK5
 refine creg ?_
 refine ymv ?_
 refine ycallP (cTake (bs := b1) ?hb5 ?hz5) rfl Tryz.call98 ztk rfl ?_ ?_
 case hb5 => exact hbR.mono zge
 case hz5 => decide
 ·rintro L' ⟨hlt9, rfl⟩
  refine kthp (kbpp (kthp (kthp (kbpp ?_))))
  refine kpan (L1 := [sc p _ 155] ++ R) zge ?_
  obtain rfl : b1 = [] := List.eq_nil_of_length_eq_zero (by omega)
  exact ⟨_, ⟨hi1.none, _, rfl⟩, rfl⟩
 rintro v L' ⟨hle9, rfl, rfl⟩
 obtain ⟨x, r, rfl⟩ : ∃ x r, b1 = x :: r := by cases b1 with | nil => exact absurd hle9 (by decide) | cons x r => exact ⟨x, r, rfl⟩
 have hv9 := rd1 hbR
 have hr9 := rdr1 hb1
 have hxl := x.toNat_lt
 refine y (ev_ixV hv9 rfl rfl Tryz.underlying22 Tryz.sizeOf5 (by decide) (by decide)) rfl ?_
 refine y (ev_loadV 0 hv9 zge rfl Tryz.isAgg5 rfl rfl) rfl ?_
 refine yas ?_
 refine ynil' (kthn (hK5 _ _ ?_))
 clear hK5
 refine cseq ?_; intro K6 hK6
 refine cseq ?_; intro K7 hK7
 refine creg ?_
 refine ymv ?_
 refine y (ev_eql rfl rfl) rfl ?_
 refine ymv ?_
 refine ysplit 14 rfl (fun h12 => ?_) (fun h12 => ?_)
 ·(try simp only [sH] at h12)
  refine ygo ?_
  refine ymv ?_
  refine ygo ?_
  refine y (ev_gtr rfl rfl) rfl ?_
  refine ypa ?_
  refine ymv ?_
  refine ysplit 18 rfl (fun h17 => ?_) (fun h17 => ?_)
  ·(try simp only [sH] at h17)
   refine ygz ?_
   refine ygz ?_
   refine ygz ?_
   refine yg0u rfl rfl rfl ?_
   refine yg0u rfl rfl rfl ?_
   refine ygz ?_
   refine ypa ?_
   refine ynil' (kthn (hK7 _ _ ?_))
   clear hK7
   refine ccond1 rfl ?_
   refine creg ?_
   refine y (ev_build (zs := _) rfl Tryz.underlying152 Tryz.zeroValue152 rfl .nil trivial (by dsimp [fillL, splice, vcells] <;> rfl)) rfl ?_
   refine y (ev_iface rfl (by kernel_rfl)) rfl ?_
   refine ypanic rfl ?_
   refine kthp (kbpp (kthp (kthp (kbpp ?_))))
   refine kpan (L1 := [sc p _ 155] ++ R) zge ?_
   exact ⟨_, ⟨hi1.bad (by omega), _, rfl⟩, rfl⟩
  ·(try simp only [sH] at h17)
   refine ygo ?_
   refine ymv ?_
   refine ygo ?_
   refine y (ev_gtr rfl rfl) rfl ?_
   refine ygo ?_
   refine ymv ?_
   refine ysplit 21 rfl (fun h25 => ?_) (fun h25 => ?_)
   ·(try simp only [sH] at h25)
    refine ygo ?_
    refine ymv ?_
    refine ygo ?_
    refine y (ev_eql rfl rfl) rfl ?_
    refine ygo ?_
    refine ypa ?_
    refine ypb ?_
    refine ynil' (kthn (hK7 _ _ ?_))
    clear hK7
    refine ccond rfl (fun h30 => ?_) (fun h30 => ?_)
    ·(try simp only [sH] at h30)
     refine creg ?_
     refine y (ev_build (zs := _) rfl Tryz.underlying152 Tryz.zeroValue152 rfl .nil trivial (by dsimp [fillL, splice, vcells] <;> rfl)) rfl ?_
     refine y (ev_iface rfl (by kernel_rfl)) rfl ?_
     refine ypanic rfl ?_
     refine kthp (kbpp (kthp (kthp (kbpp ?_))))
     refine kpan (L1 := [sc p _ 155] ++ R) zge ?_
     exact ⟨_, ⟨hi1.bad (by omega), _, rfl⟩, rfl⟩
    ·(try simp only [sH] at h30)
     refine cskip' (kthn (hK6 _ _ ?_))
     clear hK6
     refine cseq ?_; intro K8 hK8
     refine creg ?_
     have hok : ¬ ((k = 9 ∧ 1 < x.toNat) ∨ (0 < k ∧ x.toNat = 0)) := by omega
     obtain ⟨hf1, hf2⟩ := hi1.fit hok
     refine ymv ?_
     refine ymv ?_
     refine y (ev_and rfl rfl) rfl ?_
     rw [and127 hxl]
     refine y (ev_conv rfl Tryz.underlying5 Tryz.underlying179) rfl ?_
     rw [wu64, show ((x.toNat % 128 : Nat) : Int) % 18446744073709551616 = ((x.toNat % 128 : Nat) : Int) by omega]
     refine ymv ?_
     refine y (ev_shl rfl rfl (by first | decide | omega)) rfl ?_
     rw [shl7 hk9 hf1]
     refine y (ev_or rfl rfl) rfl ?_
     rw [orShift hi1.lt hf1 (by have := hi1.lt; have := pow7 hk9; omega)]
     refine yas ?_
     refine ynil' (kthn (hK8 _ _ ?_))
     clear hK8
     refine cseq ?_; intro K9 hK9
     refine creg ?_
     refine ymv ?_
     refine y (ev_lss rfl rfl) rfl ?_
     refine ynil' (kthn (hK9 _ _ ?_))
     clear hK9
     refine ccond rfl (fun h44 => ?_) (fun h44 => ?_)
     ·(try simp only [sH] at h44)
      refine cseq ?_; intro K10 hK10
      refine creg ?_
      refine ymv ?_
      refine y (ev_shr rfl rfl (by first | decide | omega)) rfl ?_
      rw [show (((u + x.toNat % 128 * 2 ^ (7 * k) : Nat)) : Int).fdiv (2 ^ (min (1 : Int).toNat IntKind.u64.bits)) = (((u + x.toNat % 128 * 2 ^ (7 * k)) / 2 : Nat) : Int) by exact fdiv2 (k := 2)]
      refine y (ev_conv rfl Tryz.underlying179 Tryz.underlying2) rfl ?_
      refine ymv ?_
      refine y (ev_and rfl rfl) rfl ?_
      rw [and1_64 hf2]
      refine y (ev_conv rfl Tryz.underlying179 Tryz.underlying2) rfl ?_
      refine y (ev_neg rfl) rfl ?_
      refine y (ev_xor rfl rfl) rfl ?_
      rw [zag_bits hf2]
      refine yas ?_
      refine ynil' (kthn (hK10 _ _ ?_))
      clear hK10
      refine cret (kbr (kthr (kthr (kbr ?_))))
      first
        | (exfalso; omega; done)
        | (refine kretvP Tryz.results99 rfl (L1 := [sc p _ 155] ++ R) zge ?_
           exact ⟨_, ⟨_, _, hi1.last hok (by omega), hr9, rfl, rfl⟩, rfl⟩)
     ·(try simp only [sH] at h44)
      refine cskip' (kbn (kthn (hK4 _ _ ?_)))
      clear hK4
      refine creg ?_
      refine ymv ?_
      refine y (ev_add rfl rfl) rfl ?_
      rw [show IntKind.i64.wrap (((7 * k : Nat) : Int) + 7) = ((7 * (k + 1) : Nat) : Int) by rw [wr (by omega) (by omega)]; omega]
      refine yas ?_
      refine ynil' (kthn ?_)
      exact hL1 (k + 1, u + x.toNat % 128 * 2 ^ (7 * k), _, r) ⟨hr9, hi1.next hok (by omega)⟩ (by dsimp only; omega) _ _ zsub zge
   ·(try simp only [sH] at h25)
    refine ygz ?_
    refine ygz ?_
    refine ygo ?_
    refine ypb ?_
    refine ypb ?_
    refine ynil' (kthn (hK7 _ _ ?_))
    clear hK7
    refine ccond0 rfl ?_
    refine cskip' (kthn (hK6 _ _ ?_))
    clear hK6
    refine cseq ?_; intro K11 hK11
    refine creg ?_
    have hok : ¬ ((k = 9 ∧ 1 < x.toNat) ∨ (0 < k ∧ x.toNat = 0)) := by omega
    obtain ⟨hf1, hf2⟩ := hi1.fit hok
    refine ymv ?_
    refine ymv ?_
    refine y (ev_and rfl rfl) rfl ?_
    rw [and127 hxl]
    refine y (ev_conv rfl Tryz.underlying5 Tryz.underlying179) rfl ?_
    rw [wu64, show ((x.toNat % 128 : Nat) : Int) % 18446744073709551616 = ((x.toNat % 128 : Nat) : Int) by omega]
    refine ymv ?_
    refine y (ev_shl rfl rfl (by first | decide | omega)) rfl ?_
    rw [shl7 hk9 hf1]
    refine y (ev_or rfl rfl) rfl ?_
    rw [orShift hi1.lt hf1 (by have := hi1.lt; have := pow7 hk9; omega)]
    refine yas ?_
    refine ynil' (kthn (hK11 _ _ ?_))
    clear hK11
    refine cseq ?_; intro K12 hK12
    refine creg ?_
    refine ymv ?_
    refine y (ev_lss rfl rfl) rfl ?_
    refine ynil' (kthn (hK12 _ _ ?_))
    clear hK12
    refine ccond rfl (fun h69 => ?_) (fun h69 => ?_)
    ·(try simp only [sH] at h69)
     refine cseq ?_; intro K13 hK13
     refine creg ?_
     refine ymv ?_
     refine y (ev_shr rfl rfl (by first | decide | omega)) rfl ?_
     rw [show (((u + x.toNat % 128 * 2 ^ (7 * k) : Nat)) : Int).fdiv (2 ^ (min (1 : Int).toNat IntKind.u64.bits)) = (((u + x.toNat % 128 * 2 ^ (7 * k)) / 2 : Nat) : Int) by exact fdiv2 (k := 2)]
     refine y (ev_conv rfl Tryz.underlying179 Tryz.underlying2) rfl ?_
     refine ymv ?_
     refine y (ev_and rfl rfl) rfl ?_
     rw [and1_64 hf2]
     refine y (ev_conv rfl Tryz.underlying179 Tryz.underlying2) rfl ?_
     refine y (ev_neg rfl) rfl ?_
     refine y (ev_xor rfl rfl) rfl ?_
     rw [zag_bits hf2]
     refine yas ?_
     refine ynil' (kthn (hK13 _ _ ?_))
     clear hK13
     refine cret (kbr (kthr (kthr (kbr ?_))))
     first
       | (exfalso; omega; done)
       | (refine kretvP Tryz.results99 rfl (L1 := [sc p _ 155] ++ R) zge ?_
          exact ⟨_, ⟨_, _, hi1.last hok (by omega), hr9, rfl, rfl⟩, rfl⟩)
    ·(try simp only [sH] at h69)
     refine cskip' (kbn (kthn (hK4 _ _ ?_)))
     clear hK4
     refine creg ?_
     refine ymv ?_
     refine y (ev_add rfl rfl) rfl ?_
     rw [show IntKind.i64.wrap (((7 * k : Nat) : Int) + 7) = ((7 * (k + 1) : Nat) : Int) by rw [wr (by omega) (by omega)]; omega]
     refine yas ?_
     refine ynil' (kthn ?_)
     exact hL1 (k + 1, u + x.toNat % 128 * 2 ^ (7 * k), _, r) ⟨hr9, hi1.next hok (by omega)⟩ (by dsimp only; omega) _ _ zsub zge
 ·(try simp only [sH] at h12)
  refine ygz ?_
  refine ygz ?_
  refine ypb ?_
  refine ymv ?_
  refine ygo ?_
  refine ymv ?_
  refine ygo ?_
  refine y (ev_gtr rfl rfl) rfl ?_
  refine ygo ?_
  refine ymv ?_
  refine ysplit 21 rfl (fun h87 => ?_) (fun h87 => ?_)
  ·(try simp only [sH] at h87)
   refine ygo ?_
   refine ymv ?_
   refine ygo ?_
   refine y (ev_eql rfl rfl) rfl ?_
   refine ygo ?_
   refine ypa ?_
   refine ypb ?_
   refine ynil' (kthn (hK7 _ _ ?_))
   clear hK7
   refine ccond rfl (fun h92 => ?_) (fun h92 => ?_)
   ·(try simp only [sH] at h92)
    refine creg ?_
    refine y (ev_build (zs := _) rfl Tryz.underlying152 Tryz.zeroValue152 rfl .nil trivial (by dsimp [fillL, splice, vcells] <;> rfl)) rfl ?_
    refine y (ev_iface rfl (by kernel_rfl)) rfl ?_
    refine ypanic rfl ?_
    refine kthp (kbpp (kthp (kthp (kbpp ?_))))
    refine kpan (L1 := [sc p _ 155] ++ R) zge ?_
    exact ⟨_, ⟨hi1.bad (by omega), _, rfl⟩, rfl⟩
   ·(try simp only [sH] at h92)
    refine cskip' (kthn (hK6 _ _ ?_))
    clear hK6
    refine cseq ?_; intro K14 hK14
    refine creg ?_
    have hok : ¬ ((k = 9 ∧ 1 < x.toNat) ∨ (0 < k ∧ x.toNat = 0)) := by omega
    obtain ⟨hf1, hf2⟩ := hi1.fit hok
    refine ymv ?_
    refine ymv ?_
    refine y (ev_and rfl rfl) rfl ?_
    rw [and127 hxl]
    refine y (ev_conv rfl Tryz.underlying5 Tryz.underlying179) rfl ?_
    rw [wu64, show ((x.toNat % 128 : Nat) : Int) % 18446744073709551616 = ((x.toNat % 128 : Nat) : Int) by omega]
    refine ymv ?_
    refine y (ev_shl rfl rfl (by first | decide | omega)) rfl ?_
    rw [shl7 hk9 hf1]
    refine y (ev_or rfl rfl) rfl ?_
    rw [orShift hi1.lt hf1 (by have := hi1.lt; have := pow7 hk9; omega)]
    refine yas ?_
    refine ynil' (kthn (hK14 _ _ ?_))
    clear hK14
    refine cseq ?_; intro K15 hK15
    refine creg ?_
    refine ymv ?_
    refine y (ev_lss rfl rfl) rfl ?_
    refine ynil' (kthn (hK15 _ _ ?_))
    clear hK15
    refine ccond rfl (fun h106 => ?_) (fun h106 => ?_)
    ·(try simp only [sH] at h106)
     refine cseq ?_; intro K16 hK16
     refine creg ?_
     refine ymv ?_
     refine y (ev_shr rfl rfl (by first | decide | omega)) rfl ?_
     rw [show (((u + x.toNat % 128 * 2 ^ (7 * k) : Nat)) : Int).fdiv (2 ^ (min (1 : Int).toNat IntKind.u64.bits)) = (((u + x.toNat % 128 * 2 ^ (7 * k)) / 2 : Nat) : Int) by exact fdiv2 (k := 2)]
     refine y (ev_conv rfl Tryz.underlying179 Tryz.underlying2) rfl ?_
     refine ymv ?_
     refine y (ev_and rfl rfl) rfl ?_
     rw [and1_64 hf2]
     refine y (ev_conv rfl Tryz.underlying179 Tryz.underlying2) rfl ?_
     refine y (ev_neg rfl) rfl ?_
     refine y (ev_xor rfl rfl) rfl ?_
     rw [zag_bits hf2]
     refine yas ?_
     refine ynil' (kthn (hK16 _ _ ?_))
     clear hK16
     refine cret (kbr (kthr (kthr (kbr ?_))))
     first
       | (exfalso; omega; done)
       | (refine kretvP Tryz.results99 rfl (L1 := [sc p _ 155] ++ R) zge ?_
          exact ⟨_, ⟨_, _, hi1.last hok (by omega), hr9, rfl, rfl⟩, rfl⟩)
    ·(try simp only [sH] at h106)
     refine cskip' (kbn (kthn (hK4 _ _ ?_)))
     clear hK4
     refine creg ?_
     refine ymv ?_
     refine y (ev_add rfl rfl) rfl ?_
     rw [show IntKind.i64.wrap (((7 * k : Nat) : Int) + 7) = ((7 * (k + 1) : Nat) : Int) by rw [wr (by omega) (by omega)]; omega]
     refine yas ?_
     refine ynil' (kthn ?_)
     exact hL1 (k + 1, u + x.toNat % 128 * 2 ^ (7 * k), _, r) ⟨hr9, hi1.next hok (by omega)⟩ (by dsimp only; omega) _ _ zsub zge
  ·(try simp only [sH] at h87)
   refine ygz ?_
   refine ygz ?_
   refine ygo ?_
   refine ypb ?_
   refine ypb ?_
   refine ynil' (kthn (hK7 _ _ ?_))
   clear hK7
   refine ccond0 rfl ?_
   refine cskip' (kthn (hK6 _ _ ?_))
   clear hK6
   refine cseq ?_; intro K17 hK17
   refine creg ?_
   have hok : ¬ ((k = 9 ∧ 1 < x.toNat) ∨ (0 < k ∧ x.toNat = 0)) := by omega
   obtain ⟨hf1, hf2⟩ := hi1.fit hok
   refine ymv ?_
   refine ymv ?_
   refine y (ev_and rfl rfl) rfl ?_
   rw [and127 hxl]
   refine y (ev_conv rfl Tryz.underlying5 Tryz.underlying179) rfl ?_
   rw [wu64, show ((x.toNat % 128 : Nat) : Int) % 18446744073709551616 = ((x.toNat % 128 : Nat) : Int) by omega]
   refine ymv ?_
   refine y (ev_shl rfl rfl (by first | decide | omega)) rfl ?_
   rw [shl7 hk9 hf1]
   refine y (ev_or rfl rfl) rfl ?_
   rw [orShift hi1.lt hf1 (by have := hi1.lt; have := pow7 hk9; omega)]
   refine yas ?_
   refine ynil' (kthn (hK17 _ _ ?_))
   clear hK17
   refine cseq ?_; intro K18 hK18
   refine creg ?_
   refine ymv ?_
   refine y (ev_lss rfl rfl) rfl ?_
   refine ynil' (kthn (hK18 _ _ ?_))
   clear hK18
   refine ccond rfl (fun h131 => ?_) (fun h131 => ?_)
   ·(try simp only [sH] at h131)
    refine cseq ?_; intro K19 hK19
    refine creg ?_
    refine ymv ?_
    refine y (ev_shr rfl rfl (by first | decide | omega)) rfl ?_
    rw [show (((u + x.toNat % 128 * 2 ^ (7 * k) : Nat)) : Int).fdiv (2 ^ (min (1 : Int).toNat IntKind.u64.bits)) = (((u + x.toNat % 128 * 2 ^ (7 * k)) / 2 : Nat) : Int) by exact fdiv2 (k := 2)]
    refine y (ev_conv rfl Tryz.underlying179 Tryz.underlying2) rfl ?_
    refine ymv ?_
    refine y (ev_and rfl rfl) rfl ?_
    rw [and1_64 hf2]
    refine y (ev_conv rfl Tryz.underlying179 Tryz.underlying2) rfl ?_
    refine y (ev_neg rfl) rfl ?_
    refine y (ev_xor rfl rfl) rfl ?_
    rw [zag_bits hf2]
    refine yas ?_
    refine ynil' (kthn (hK19 _ _ ?_))
    clear hK19
    refine cret (kbr (kthr (kthr (kbr ?_))))
    first
      | (exfalso; omega; done)
      | (refine kretvP Tryz.results99 rfl (L1 := [sc p _ 155] ++ R) zge ?_
         exact ⟨_, ⟨_, _, hi1.last hok (by omega), hr9, rfl, rfl⟩, rfl⟩)
   ·(try simp only [sH] at h131)
    refine cskip' (kbn (kthn (hK4 _ _ ?_)))
    clear hK4
    refine creg ?_
    refine ymv ?_
    refine y (ev_add rfl rfl) rfl ?_
    rw [show IntKind.i64.wrap (((7 * k : Nat) : Int) + 7) = ((7 * (k + 1) : Nat) : Int) by rw [wr (by omega) (by omega)]; omega]
    refine yas ?_
    refine ynil' (kthn ?_)
    exact hL1 (k + 1, u + x.toNat % 128 * 2 ^ (7 * k), _, r) ⟨hr9, hi1.next hok (by omega)⟩ (by dsimp only; omega) _ _ zsub zge
end W
end Go.Proofs
