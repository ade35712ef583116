/- A part of the proof: contracts and plain lemmas, each without conditions beyond those that it names. -/
import Derived.Test.YtebijajimmjknaaGreatT1
import Derived.Test.YtebijajimmjknaaGreatGF
import Derived.Test.YtebijajimmjknaaGreatGE
set_option linter.unusedVariables false
set_option linter.unusedSimpArgs false
set_option linter.constructorNameAsVariable false
namespace Go.Proofs
open Go Go.Sl
namespace W
set_option linter.unusedVariables false
theorem cOn [Env] {R : List Seg} {s : Nat} {b : UInt8} (hs : s < 4294967296) : Con Tryz.prog 130 [.int .u32 s, .int .u8 b.toNat] [] R (Is (.int .u32 (crcOn s b)) []) := by
 have hb := b.toNat_lt
 have hx : s ^^^ b.toNat < 4294967296 := Nat.xor_lt_two_pow (n := 32) hs (by omega)
 refine con_enter Tryz.func130 Tryz.ntmps130 rfl rfl ?_
 refine cseq ?_; intro K1 hK1
 refine creg ?_
 refine yas ?_
 refine ynil' (kthn (hK1 _ _ ?_))
 clear hK1
 refine cseq ?_; intro K2 hK2
 refine creg ?_
 refine ymv ?_
 refine ymv ?_
 refine y (ev_conv rfl Tryz.underlying5 Tryz.underlying175) rfl ?_
 refine y (ev_xor rfl rfl) rfl ?_
 rw [wu32, show ((b.toNat : Nat) : Int) % 4294967296 = ((b.toNat : Nat) : Int) by omega, bXor_u rfl (show s < 2 ^ IntKind.u32.bits from hs) (show b.toNat < 2 ^ IntKind.u32.bits by show _ < 4294967296; omega)]
 refine yas ?_
 refine ynil' (kthn (hK2 _ _ ?_))
 clear hK2
 refine cseq ?_; intro K3 hK3
 refine cseq ?_; intro K4 hK4
 refine creg ?_
 refine ymv ?_
 refine ynil' (kthn (hK4 _ _ ?_))
 clear hK4
 have hJ1 : ∀ x : Nat, ((x ≤ 8) ∧ (x = 8)) → Sk 22 K3 ([(10, i64 x), (0, .int .u32 (crcN x (s ^^^ b.toNat)))]) (R) := by
  rintro k ⟨hI1, hX1⟩
  refine hK3 _ _ ?_
  have hk := hI1; have hn := crcN_lt hx k
  subst hX1
  refine cseq ?_; intro K5 hK5
  refine creg ?_
  refine ymv ?_
  refine yas ?_
  refine ynil' (kthn (hK5 _ _ ?_))
  clear hK5
  refine cret ?_
  first
    | (exfalso; omega; done)
    | (refine kretv Tryz.results130 rfl (L1 := R) zge ?_
       exact ⟨_, ⟨by rfl, rfl⟩, by rfl⟩)
 clear hK3
 refine cblock ?_
 refine cloop (A := Nat) (fun x => [(10, i64 x), (0, .int .u32 (crcN x (s ^^^ b.toNat)))]) (fun x => R) (fun x => x ≤ 8) (fun x => 8 - x) (0) ?_ zsub zge ?_
 · exact Nat.zero_le _
 rintro k hI1 KL1 hL1
 have hI1o := hI1
 have hk := hI1; have hn := crcN_lt hx k
 refine cseq ?_; intro K6 hK6
 refine creg ?_
 refine y (ev_lss rfl rfl) rfl ?_
 refine ynil' (kthn (hK6 _ _ ?_))
 clear hK6
 refine cseq ?_; intro K7 hK7
 refine ccond rfl (fun h11 => ?_) (fun h11 => ?_)
 ·(try simp only [sH] at h11)
  refine cskip' (kthn (hK7 _ _ ?_))
  clear hK7
  refine cseq ?_; intro K8 hK8
  refine cblock ?_
  refine cseq ?_; intro K9 hK9
  refine creg ?_
  refine ymv ?_
  refine y (ev_and rfl rfl) rfl ?_
  refine yas ?_
  refine ynil' (kthn (hK9 _ _ ?_))
  clear hK9
  refine cseq ?_; intro K10 hK10
  refine creg ?_
  refine ymv ?_
  refine y (ev_shr rfl rfl (by first | decide | omega)) rfl ?_
  rw [show (crcN k (s ^^^ b.toNat) : Int).fdiv (2 ^ (min (1 : Int).toNat IntKind.u32.bits)) = ((crcN k (s ^^^ b.toNat) / 2 : Nat) : Int) by exact fdiv2 (k := 2)]
  have hcb := crcBit_bits hn
  refine yas ?_
  refine ynil' (kthn (hK10 _ _ ?_))
  clear hK10
  refine cseq ?_; intro K11 hK11
  refine creg ?_
  refine ymv ?_
  refine y (ev_eql rfl rfl) rfl ?_
  refine ynil' (kthn (hK11 _ _ ?_))
  clear hK11
  refine ccond rfl (fun h20 => ?_) (fun h20 => ?_)
  ·(try simp only [sH] at h20)
   rw [if_pos h20] at hcb
   refine creg ?_
   refine ymv ?_
   refine y (ev_xor rfl rfl) rfl ?_
   rw [hcb]
   refine yas ?_
   refine ynil' (kbn (kthn (hK8 _ _ ?_)))
   clear hK8
   refine creg ?_
   refine y (ev_add rfl rfl) rfl ?_
   rw [show IntKind.i64.wrap ((k:Int) + 1) = ((k+1 : Nat) : Int) by rw [wr (by omega) (by omega)]; rfl]
   refine ymv ?_
   refine ynil' (kthn ?_)
   exact hL1 (k + 1) ((show k + 1 ≤ 8 by omega)) (by omega) _ _ zsub zge
  ·(try simp only [sH] at h20)
   rw [if_neg h20] at hcb
   rw [hcb]
   refine cskip' (kbn (kthn (hK8 _ _ ?_)))
   clear hK8
   refine creg ?_
   refine y (ev_add rfl rfl) rfl ?_
   rw [show IntKind.i64.wrap ((k:Int) + 1) = ((k+1 : Nat) : Int) by rw [wr (by omega) (by omega)]; rfl]
   refine ymv ?_
   refine ynil' (kthn ?_)
   exact hL1 (k + 1) ((show k + 1 ≤ 8 by omega)) (by omega) _ _ zsub zge
 ·(try simp only [sH] at h11)
  refine cexit (kthx (kthx (kbx (kthn ?_))))
  exact ksub zsub zge (hJ1 k ⟨hI1o, by first | trivial | omega⟩)
theorem cMore [Env] {R : List Seg} {s : Nat} {v : Value} {bs : Bytes} (hb : RdV R v bs.length (bytesV bs)) (hs : s < 4294967296) (hl : bs.length < 1000000) : Con Tryz.prog 116 [.int .u32 s, v] [] R (Is (.int .u32 (crcMore s bs)) []) := by
 refine con_enter Tryz.func116 Tryz.ntmps116 rfl rfl ?_
 refine cseq ?_; intro K1 hK1
 refine creg ?_
 refine yas ?_
 refine ynil' (kthn (hK1 _ _ ?_))
 clear hK1
 refine cseq ?_; intro K2 hK2
 refine creg ?_
 refine ymv ?_
 refine y (ev_cpl rfl) rfl ?_
 rw [cpl32 hs]
 refine yas ?_
 refine ynil' (kthn (hK2 _ _ ?_))
 clear hK2
 refine cseq ?_; intro K3 hK3
 refine cseq ?_; intro K4 hK4
 refine creg ?_
 refine ymv ?_
 first
   | refine y (ev_len rfl Tryz.underlying50) rfl ?_
   | refine y (ev_lenSv rfl Tryz.underlying50 (by assumption)) rfl ?_
   | refine y (ev_lenV rfl Tryz.underlying50 (RdV.lenVal (by assumption))) rfl ?_
   | refine y (ev_lenV rfl Tryz.underlying50 (RdB.lenVal (by assumption))) rfl ?_
 refine ymv ?_
 refine ynil' (kthn (hK4 _ _ ?_))
 clear hK4
 have hJ1 : ∀ x : Nat, ((x ≤ bs.length) ∧ (x = bs.length)) → Sk 22 K3 ([(12, i64 x), (11, i64 bs.length), (10, v), (5, .int .u32 (((bs.take x).foldl crcOn (4294967295 - s) : Nat)))]) (R) := by
  rintro k ⟨hI1, hX1⟩
  refine hK3 _ _ ?_
  have hk := hI1
  subst hX1; rw [List.take_length]
  refine cseq ?_; intro K5 hK5
  refine creg ?_
  refine ymv ?_
  refine y (ev_cpl rfl) rfl ?_
  rw [cpl32 (crcFold_lt (by omega))]
  refine yas ?_
  refine ynil' (kthn (hK5 _ _ ?_))
  clear hK5
  refine cret ?_
  first
    | (exfalso; omega; done)
    | (refine kretv Tryz.results116 rfl (L1 := R) zge ?_
       exact ⟨_, ⟨by rfl, rfl⟩, by rfl⟩)
 clear hK3
 refine cblock ?_
 refine cloop (A := Nat) (fun x => [(12, i64 x), (11, i64 bs.length), (10, v), (5, .int .u32 (((bs.take x).foldl crcOn (4294967295 - s) : Nat)))]) (fun x => R) (fun x => x ≤ bs.length) (fun x => bs.length - x) (0) ?_ zsub zge ?_
 · exact Nat.zero_le _
 rintro k hI1 KL1 hL1
 have hI1o := hI1
 have hk := hI1
 refine cseq ?_; intro K6 hK6
 refine creg ?_
 refine y (ev_lss rfl rfl) rfl ?_
 refine ynil' (kthn (hK6 _ _ ?_))
 clear hK6
 refine cseq ?_; intro K7 hK7
 refine ccond rfl (fun h39 => ?_) (fun h39 => ?_)
 ·(try simp only [sH] at h39)
  refine cskip' (kthn (hK7 _ _ ?_))
  clear hK7
  refine cseq ?_; intro K8 hK8
  refine cblock ?_
  refine cseq ?_; intro K9 hK9
  refine creg ?_
  first
    | refine y (ev_ixAddr rfl rfl Tryz.underlying50 Tryz.sizeOf5 (by omega) (by omega)) rfl ?_
    | refine y (ev_ixV (by assumption) rfl rfl Tryz.underlying50 Tryz.sizeOf5 (by omega) (by omega)) rfl ?_
  refine y (ev_loadV k hb zge rfl Tryz.isAgg5 (by simp) (bytesV_get (by omega))) rfl ?_
  refine yas ?_
  refine ynil' (kthn (hK9 _ _ ?_))
  clear hK9
  refine creg ?_
  refine ymv ?_
  refine ymv ?_
  refine ycall (cOn ?lt45) rfl Tryz.call130 ztk rfl ?_
  case lt45 => exact crcFold_lt (by omega)
  rintro v L' ⟨rfl, rfl⟩
  rw [show crcOn (List.foldl crcOn (4294967295 - s) (bs.take k)) (bs[k]?.getD 0) = List.foldl crcOn (4294967295 - s) (bs.take (k + 1)) by rw [List.take_add_one, List.foldl_append, List.getElem?_eq_getElem (by omega)]; rfl]
  refine yas ?_
  refine ynil' (kbn (kthn (hK8 _ _ ?_)))
  clear hK8
  refine creg ?_
  refine y (ev_add rfl rfl) rfl ?_
  rw [show IntKind.i64.wrap ((k:Int) + 1) = ((k+1 : Nat) : Int) by rw [wr (by omega) (by omega)]; rfl]
  refine ymv ?_
  refine ynil' (kthn ?_)
  exact hL1 (k + 1) ((show k + 1 ≤ bs.length by omega)) (by omega) _ _ zsub zge
 ·(try simp only [sH] at h39)
  refine cexit (kthx (kthx (kbx (kthn ?_))))
  exact ksub zsub zge (hJ1 k ⟨hI1o, by first | trivial | omega⟩)
theorem cSum [Env] {R : List Seg} {v : Value} {bs : Bytes} (hb : RdV R v bs.length (bytesV bs)) (hl : bs.length < 1000000) : Con Tryz.prog 109 [v] [] R (Is (.int .u32 (sumM bs)) []) := by
 refine con_enter Tryz.func109 Tryz.ntmps109 rfl rfl ?_
 refine cseq ?_; intro K1 hK1
 refine creg ?_
 refine yas ?_
 refine ynil' (kthn (hK1 _ _ ?_))
 clear hK1
 refine cseq ?_; intro K2 hK2
 refine creg ?_
 refine ymv ?_
 refine ycall (cMore (s := 0) (bs := bs) ?bs51 ?lt51 ?len51) rfl Tryz.call116 ztk rfl ?_
 case bs51 => exact hb.mono zge
 case lt51 => decide
 case len51 => omega
 rintro v L' ⟨rfl, rfl⟩
 refine yas ?_
 refine ynil' (kthn (hK2 _ _ ?_))
 clear hK2
 refine cret ?_
 first
   | (exfalso; omega; done)
   | (refine kretv Tryz.results109 rfl (L1 := R) zge ?_
      exact ⟨_, ⟨by rfl, rfl⟩, by rfl⟩)
theorem cCheck [Env] {R : List Seg} {v : Value} {bs : Bytes} {s : Nat} (hb : RdV R v bs.length (bytesV bs)) (hl : bs.length < 1000000) : Con Tryz.prog 95 [v, .int .u32 s] [] R (Is (.bool (decide (sumM bs = s))) []) := by
 refine con_enter Tryz.func95 Tryz.ntmps95 rfl rfl ?_
 refine cseq ?_; intro K1 hK1
 refine creg ?_
 refine yas ?_
 refine ynil' (kthn (hK1 _ _ ?_))
 clear hK1
 refine cseq ?_; intro K2 hK2
 refine creg ?_
 refine ymv ?_
 refine ycall (cSum (bs := bs) ?bs55 ?len55) rfl Tryz.call109 ztk rfl ?_
 case bs55 => exact hb.mono zge
 case len55 => omega
 rintro v L' ⟨rfl, rfl⟩
 refine ymv ?_
 refine y (ev_eql rfl rfl) rfl ?_
 refine yas ?_
 refine ynil' (kthn (hK2 _ _ ?_))
 clear hK2
 refine cret ?_
 first
   | (exfalso; omega; done)
   | (refine kretv Tryz.results95 rfl (L1 := R) zge ?_
      exact ⟨_, ⟨by first | rfl | (simp; omega), rfl⟩, by first | rfl | (simp; omega)⟩)
end W
end Go.Proofs
