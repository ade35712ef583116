/- A part of the proof: contracts and plain lemmas, each without conditions beyond those that it names. -/
import Derived.Test.YtebijajimmjknaaGreatT15
set_option linter.unusedVariables false
set_option linter.unusedSimpArgs false
set_option linter.constructorNameAsVariable false
namespace Go.Proofs
open Go Go.Sl
namespace W
set_option linter.unusedVariables false
theorem zig_u {n : Int} (h1 : -9223372036854775808 ≤ n) (h2 : n ≤ 9223372036854775807) (h : ¬ n < 0) : IntKind.u64.wrap (IntKind.u64.wrap n * 2) = (zig n : Int) := by
 unfold zig; rw [wu64, wu64, if_pos (by omega)]; omega
theorem zig_v {n : Int} (h1 : -9223372036854775808 ≤ n) (h2 : n ≤ 9223372036854775807) (h : n < 0) : IntKind.u64.wrap (IntKind.u64.wrap (0 - IntKind.u64.wrap (IntKind.u64.wrap n * 2)) - 1) = (zig n : Int) := by
 unfold zig; rw [wu64, wu64, wu64, wu64, if_neg (by omega)]; omega
theorem rNum [Env] {R : List Seg} {n : Int} (h1 : -9223372036854775808 ≤ n) (h2 : n ≤ 9223372036854775807) :
   Con Tryz.prog 91 [i64 n] [] R (KSv 5 (numB (zig n)).length 1 (bytesV (numB (zig n))) []) := by
 have hz := zig_lt h1 h2
 have hl := numB_len10 hz
 refine con_enter Tryz.func91 Tryz.ntmps91 rfl rfl ?_
 refine cseq ?_; intro K1 hK1
 refine creg ?_
 refine yas ?_
 refine ynil' (kthn (hK1 _ _ ?_))
 clear hK1
 refine cseq ?_; intro K2 hK2
 refine creg ?_
 refine ymv ?_
 refine y (ev_conv rfl Tryz.underlying2 Tryz.underlying180) rfl ?_
 refine y (ev_mul rfl rfl) rfl ?_
 refine yas ?_
 refine ynil' (kthn (hK2 _ _ ?_))
 clear hK2
 refine cseq ?_; intro K3 hK3
 refine cseq ?_; intro K4 hK4
 refine creg ?_
 refine ymv ?_
 refine y (ev_lss rfl rfl) rfl ?_
 refine ynil' (kthn (hK4 _ _ ?_))
 clear hK4
 refine ccond rfl (fun h8 => ?_) (fun h8 => ?_)
 ·(try simp only [sH] at h8)
  have hzz := zig_v h1 h2 h8
  refine creg ?_
  refine ymv ?_
  refine y (ev_conv rfl Tryz.underlying2 Tryz.underlying180) rfl ?_
  refine y (ev_mul rfl rfl) rfl ?_
  refine y (ev_sub rfl rfl) rfl ?_
  refine y (ev_sub rfl rfl) rfl ?_
  rw [hzz]
  refine yas ?_
  refine ynil' (kthn (hK3 _ _ ?_))
  clear hK3
  refine cseq ?_; intro K5 hK5
  refine creg ?_
  refine ya (ac_bslice0 Tryz.underlying50 Tryz.sizeOf5) rfl ?_
  rintro v L' ⟨b15, rfl, rfl⟩
  refine yas ?_
  refine ynil' (kthn (hK5 _ _ ?_))
  clear hK5
  refine cseq ?_; intro K6 hK6
  have hJ1 : ∀ x : Nat × Bytes × Sv, ((svOk x.2.2 x.2.1.length 1 (bytesV x.2.1) ∧ numB (zig n) = x.2.1 ++ numB x.1 ∧ x.1 < 18446744073709551616) ∧ (x.1 < 128)) → Sk 32 K6 ([(4, svVal x.2.2 x.2.1.length), (3, .int .u64 (x.1 : Nat))]) ([svSeg x.2.2 5 (bytesV x.2.1)] ++ R) := by
   rintro ⟨u, b, s⟩ ⟨hI1, hX1⟩
   refine hK6 _ _ ?_
   obtain ⟨okb, hb, hu64⟩ := hI1; dsimp only at okb hb hu64 ⊢; have hbl : b.length ≤ 10 := by rw [hb] at hl; simp at hl; omega
   dsimp only at hX1; rw [numB_last hX1] at hb
   refine cseq ?_; intro K7 hK7
   refine creg ?_
   refine ymv ?_
   refine ymv ?_
   refine y (ev_conv rfl Tryz.underlying180 Tryz.underlying5) rfl ?_
   rw [wu8, show ((u : Nat) : Int) % 256 = ((u : Nat) : Int) by omega]
   refine ya (ac_bsliceR rfl Tryz.underlying50 Tryz.sizeOf5 Tryz.zeroValue5 rfl rfl rfl rfl ⟨⟨_, _, rfl, (by first | rfl | simp), (by first | decide | simp)⟩, trivial⟩ (by dsimp [fillL, splice, vcells, reps] <;> rfl)) rfl ?_
   rintro v L' ⟨b30, rfl, rfl⟩
   refine ya (ac_append (xs := bytesV b) (m := b.length) (k := 1) (us := [.int .u8 ((u : Nat) : Int)]) (size := 1) rfl rfl (by repeat first | exact .z | apply Pk.s) Tryz.underlying50 Tryz.underlying50 (by intro q hq; cases hq) Tryz.typeInfo5 rfl rfl rfl ?ok21 ?src21 ?one21 ?big21) rfl ?_
   case ok21 => exact okb
   case src21 => exact src_at zin rfl rfl
   case one21 => simp [Value.oneCell']
   case big21 => show (b.length + 1) * 2 ≤ _; omega
   rintro v L' ⟨s31, rfl, ok31, rfl⟩
   have hlen : b.length + 1 = (numB (zig n)).length := by rw [hb]; simp
   rw [bytesV_snoc _ _ (by omega), ← hb, hlen] at ok31 ⊢
   refine yas ?_
   refine ynil' (kthn (hK7 _ _ ?_))
   clear hK7
   refine cret ?_
   first
     | (exfalso; omega; done)
     | (refine kretv Tryz.results91 rfl (L1 := [svSeg _ _ _] ++ R) zge ?_
        exact ⟨_, ⟨s31, rfl, ok31, rfl⟩, rfl⟩)
  clear hK6
  refine cblock ?_
  refine cloop (A := Nat × Bytes × Sv) (fun x => [(4, svVal x.2.2 x.2.1.length), (3, .int .u64 (x.1 : Nat))]) (fun x => [svSeg x.2.2 5 (bytesV x.2.1)] ++ R) (fun x => svOk x.2.2 x.2.1.length 1 (bytesV x.2.1) ∧ numB (zig n) = x.2.1 ++ numB x.1 ∧ x.1 < 18446744073709551616) (fun x => x.1) ((zig n, [], some (b15, 0, []))) ?_ zsub zge ?_
  · exact ⟨⟨Nat.le_refl _, Nat.zero_le _, rfl, rfl⟩, rfl, hz⟩
  rintro ⟨u, b, s⟩ hI1 KL1 hL1
  have hI1o := hI1
  obtain ⟨okb, hb, hu64⟩ := hI1; dsimp only at okb hb hu64 ⊢; have hbl : b.length ≤ 10 := by rw [hb] at hl; simp at hl; omega
  refine cseq ?_; intro K8 hK8
  refine cseq ?_; intro K9 hK9
  refine creg ?_
  refine ymv ?_
  refine y (ev_geq rfl rfl) rfl ?_
  refine ynil' (kthn (hK9 _ _ ?_))
  clear hK9
  refine ccond rfl (fun h25 => ?_) (fun h25 => ?_)
  ·(try simp only [sH] at h25)
   refine cskip' (kthn (hK8 _ _ ?_))
   clear hK8
   refine cblock ?_
   refine cseq ?_; intro K10 hK10
   refine creg ?_
   refine ymv ?_
   refine ymv ?_
   refine y (ev_rem rfl rfl (by decide)) rfl ?_
   rw [show ((u : Nat) : Int).tmod 128 = ((u % 128 : Nat) : Int) from rfl]
   refine y (ev_add rfl rfl) rfl ?_
   rw [wu64, show (((u % 128 : Nat) : Int) + 128) % 18446744073709551616 = ((u % 128 + 128 : Nat) : Int) by omega]
   refine y (ev_conv rfl Tryz.underlying180 Tryz.underlying5) rfl ?_
   rw [wu8, show ((u % 128 + 128 : Nat) : Int) % 256 = ((u % 128 + 128 : Nat) : Int) by omega]
   refine ya (ac_bsliceR rfl Tryz.underlying50 Tryz.sizeOf5 Tryz.zeroValue5 rfl rfl rfl rfl ⟨⟨_, _, rfl, (by first | rfl | simp), (by first | decide | simp)⟩, trivial⟩ (by dsimp [fillL, splice, vcells, reps] <;> rfl)) rfl ?_
   rintro v L' ⟨b23, rfl, rfl⟩
   refine ya (ac_append (xs := bytesV b) (m := b.length) (k := 1) (us := [.int .u8 ((u % 128 + 128 : Nat) : Int)]) (size := 1) rfl rfl (by repeat first | exact .z | apply Pk.s) Tryz.underlying50 Tryz.underlying50 (by intro q hq; cases hq) Tryz.typeInfo5 rfl rfl rfl ?ok32 ?src32 ?one32 ?big32) rfl ?_
   case ok32 => exact okb
   case src32 => exact src_at zin rfl rfl
   case one32 => simp [Value.oneCell']
   case big32 => show (b.length + 1) * 2 ≤ _; omega
   rintro v L' ⟨s24, rfl, ok24, rfl⟩
   rw [bytesV_snoc _ _ (by omega)] at ok24 ⊢
   refine yas ?_
   refine ynil' (kthn (hK10 _ _ ?_))
   clear hK10
   refine creg ?_
   refine ymv ?_
   refine y (ev_quo rfl rfl (by decide)) rfl ?_
   rw [wu64, show ((u : Nat) : Int).tdiv 128 = ((u / 128 : Nat) : Int) from rfl, show ((u / 128 : Nat) : Int) % 18446744073709551616 = ((u / 128 : Nat) : Int) by omega]
   refine yas ?_
   refine ynil' (kbn (kthn ?_))
   exact ksub zsub zge (hL1 (u / 128, b ++ [UInt8.ofNat (u % 128 + 128)], s24) ⟨by rw [List.length_append]; exact ok24, by rw [hb, numB_more (by omega)]; simp, by dsimp only; omega⟩ (by dsimp only; omega) [(4, svVal s24 (b ++ [UInt8.ofNat (u % 128 + 128)]).length), (3, .int .u64 ((u / 128 : Nat) : Int))] _ zsub .refl)
  ·(try simp only [sH] at h25)
   refine cexit (kthx (kthx (kbx (kthn ?_))))
   exact ksub zsub zge (hJ1 ⟨u, b, s⟩ ⟨hI1o, by dsimp only; omega⟩)
 ·(try simp only [sH] at h8)
  rw [zig_u h1 h2 (by omega)]
  refine cskip' (kthn (hK3 _ _ ?_))
  clear hK3
  refine cseq ?_; intro K11 hK11
  refine creg ?_
  refine ya (ac_bslice0 Tryz.underlying50 Tryz.sizeOf5) rfl ?_
  rintro v L' ⟨b15, rfl, rfl⟩
  refine yas ?_
  refine ynil' (kthn (hK11 _ _ ?_))
  clear hK11
  refine cseq ?_; intro K12 hK12
  have hJ1 : ∀ x : Nat × Bytes × Sv, ((svOk x.2.2 x.2.1.length 1 (bytesV x.2.1) ∧ numB (zig n) = x.2.1 ++ numB x.1 ∧ x.1 < 18446744073709551616) ∧ (x.1 < 128)) → Sk 32 K12 ([(4, svVal x.2.2 x.2.1.length), (3, .int .u64 (x.1 : Nat))]) ([svSeg x.2.2 5 (bytesV x.2.1)] ++ R) := by
   rintro ⟨u, b, s⟩ ⟨hI1, hX1⟩
   refine hK12 _ _ ?_
   obtain ⟨okb, hb, hu64⟩ := hI1; dsimp only at okb hb hu64 ⊢; have hbl : b.length ≤ 10 := by rw [hb] at hl; simp at hl; omega
   dsimp only at hX1; rw [numB_last hX1] at hb
   refine cseq ?_; intro K13 hK13
   refine creg ?_
   refine ymv ?_
   refine ymv ?_
   refine y (ev_conv rfl Tryz.underlying180 Tryz.underlying5) rfl ?_
   rw [wu8, show ((u : Nat) : Int) % 256 = ((u : Nat) : Int) by omega]
   refine ya (ac_bsliceR rfl Tryz.underlying50 Tryz.sizeOf5 Tryz.zeroValue5 rfl rfl rfl rfl ⟨⟨_, _, rfl, (by first | rfl | simp), (by first | decide | simp)⟩, trivial⟩ (by dsimp [fillL, splice, vcells, reps] <;> rfl)) rfl ?_
   rintro v L' ⟨b30, rfl, rfl⟩
   refine ya (ac_append (xs := bytesV b) (m := b.length) (k := 1) (us := [.int .u8 ((u : Nat) : Int)]) (size := 1) rfl rfl (by repeat first | exact .z | apply Pk.s) Tryz.underlying50 Tryz.underlying50 (by intro q hq; cases hq) Tryz.typeInfo5 rfl rfl rfl ?ok43 ?src43 ?one43 ?big43) rfl ?_
   case ok43 => exact okb
   case src43 => exact src_at zin rfl rfl
   case one43 => simp [Value.oneCell']
   case big43 => show (b.length + 1) * 2 ≤ _; omega
   rintro v L' ⟨s31, rfl, ok31, rfl⟩
   have hlen : b.length + 1 = (numB (zig n)).length := by rw [hb]; simp
   rw [bytesV_snoc _ _ (by omega), ← hb, hlen] at ok31 ⊢
   refine yas ?_
   refine ynil' (kthn (hK13 _ _ ?_))
   clear hK13
   refine cret ?_
   first
     | (exfalso; omega; done)
     | (refine kretv Tryz.results91 rfl (L1 := [svSeg _ _ _] ++ R) zge ?_
        exact ⟨_, ⟨s31, rfl, ok31, rfl⟩, rfl⟩)
  clear hK12
  refine cblock ?_
  refine cloop (A := Nat × Bytes × Sv) (fun x => [(4, svVal x.2.2 x.2.1.length), (3, .int .u64 (x.1 : Nat))]) (fun x => [svSeg x.2.2 5 (bytesV x.2.1)] ++ R) (fun x => svOk x.2.2 x.2.1.length 1 (bytesV x.2.1) ∧ numB (zig n) = x.2.1 ++ numB x.1 ∧ x.1 < 18446744073709551616) (fun x => x.1) ((zig n, [], some (b15, 0, []))) ?_ zsub zge ?_
  · exact ⟨⟨Nat.le_refl _, Nat.zero_le _, rfl, rfl⟩, rfl, hz⟩
  rintro ⟨u, b, s⟩ hI1 KL1 hL1
  have hI1o := hI1
  obtain ⟨okb, hb, hu64⟩ := hI1; dsimp only at okb hb hu64 ⊢; have hbl : b.length ≤ 10 := by rw [hb] at hl; simp at hl; omega
  refine cseq ?_; intro K14 hK14
  refine cseq ?_; intro K15 hK15
  refine creg ?_
  refine ymv ?_
  refine y (ev_geq rfl rfl) rfl ?_
  refine ynil' (kthn (hK15 _ _ ?_))
  clear hK15
  refine ccond rfl (fun h47 => ?_) (fun h47 => ?_)
  ·(try simp only [sH] at h47)
   refine cskip' (kthn (hK14 _ _ ?_))
   clear hK14
   refine cblock ?_
   refine cseq ?_; intro K16 hK16
   refine creg ?_
   refine ymv ?_
   refine ymv ?_
   refine y (ev_rem rfl rfl (by decide)) rfl ?_
   rw [show ((u : Nat) : Int).tmod 128 = ((u % 128 : Nat) : Int) from rfl]
   refine y (ev_add rfl rfl) rfl ?_
   rw [wu64, show (((u % 128 : Nat) : Int) + 128) % 18446744073709551616 = ((u % 128 + 128 : Nat) : Int) by omega]
   refine y (ev_conv rfl Tryz.underlying180 Tryz.underlying5) rfl ?_
   rw [wu8, show ((u % 128 + 128 : Nat) : Int) % 256 = ((u % 128 + 128 : Nat) : Int) by omega]
   refine ya (ac_bsliceR rfl Tryz.underlying50 Tryz.sizeOf5 Tryz.zeroValue5 rfl rfl rfl rfl ⟨⟨_, _, rfl, (by first | rfl | simp), (by first | decide | simp)⟩, trivial⟩ (by dsimp [fillL, splice, vcells, reps] <;> rfl)) rfl ?_
   rintro v L' ⟨b23, rfl, rfl⟩
   refine ya (ac_append (xs := bytesV b) (m := b.length) (k := 1) (us := [.int .u8 ((u % 128 + 128 : Nat) : Int)]) (size := 1) rfl rfl (by repeat first | exact .z | apply Pk.s) Tryz.underlying50 Tryz.underlying50 (by intro q hq; cases hq) Tryz.typeInfo5 rfl rfl rfl ?ok54 ?src54 ?one54 ?big54) rfl ?_
   case ok54 => exact okb
   case src54 => exact src_at zin rfl rfl
   case one54 => simp [Value.oneCell']
   case big54 => show (b.length + 1) * 2 ≤ _; omega
   rintro v L' ⟨s24, rfl, ok24, rfl⟩
   rw [bytesV_snoc _ _ (by omega)] at ok24 ⊢
   refine yas ?_
   refine ynil' (kthn (hK16 _ _ ?_))
   clear hK16
   refine creg ?_
   refine ymv ?_
   refine y (ev_quo rfl rfl (by decide)) rfl ?_
   rw [wu64, show ((u : Nat) : Int).tdiv 128 = ((u / 128 : Nat) : Int) from rfl, show ((u / 128 : Nat) : Int) % 18446744073709551616 = ((u / 128 : Nat) : Int) by omega]
   refine yas ?_
   refine ynil' (kbn (kthn ?_))
   exact ksub zsub zge (hL1 (u / 128, b ++ [UInt8.ofNat (u % 128 + 128)], s24) ⟨by rw [List.length_append]; exact ok24, by rw [hb, numB_more (by omega)]; simp, by dsimp only; omega⟩ (by dsimp only; omega) [(4, svVal s24 (b ++ [UInt8.ofNat (u % 128 + 128)]).length), (3, .int .u64 ((u / 128 : Nat) : Int))] _ zsub .refl)
  ·(try simp only [sH] at h47)
   refine cexit (kthx (kthx (kbx (kthn ?_))))
   exact ksub zsub zge (hJ1 ⟨u, b, s⟩ ⟨hI1o, by dsimp only; omega⟩)
theorem rEncode [Env] {R : List Seg} {r : RecM} {nv tv : Value} (hn : RdV R nv r.nums.length (intsV r.nums)) (ht : RdV R tv r.texts.length (strsV r.texts)) (hI : I64s r.nums) :
   Con Tryz.prog 70 [.agg #[i64 r.kind, nv, tv]] [] R (fun v L' => ∃ s, v = .tuple #[svVal s (encM r).1.length, i64 (encM r).2] ∧ svOk s (encM r).1.length 1 (bytesV (encM r).1) ∧ L' = [svSeg s 5 (bytesV (encM r).1)]) := by
 have hnl := hn.lenVal
 have htl := ht.lenVal
 refine con_enter Tryz.func70 Tryz.ntmps70 rfl rfl ?_
 refine cseq ?_; intro K1 hK1
 refine creg ?_
 refine ya (ac_box rfl rfl) rfl ?_
 rintro v L' ⟨b1, rfl, rfl⟩
 refine yas ?_
 refine yas ?_
 refine ynil' (kthn (hK1 _ _ ?_))
 clear hK1
 refine cseq ?_; intro K2 hK2
 refine cseq ?_; intro K3 hK3
 refine creg ?_
 refine y (ev_loadAll rfl Tryz.isAgg100 Tryz.sizeOf100 zin (by first | rfl | assumption | (simp [*]; done) | (simp [*]; omega))) rfl ?_
 refine ycall (rMay (r := r) ?hn63 ?ht63) rfl Tryz.call90 ztk rfl ?_
 case hn63 => exact hn.mono zge
 case ht63 => exact ht.mono zge
 rintro v L' ⟨rfl, rfl⟩
 refine y (ev_not rfl) rfl ?_
 refine ynil' (kthn (hK3 _ _ ?_))
 clear hK3
 refine ccond rfl (fun h65 => ?_) (fun h65 => ?_)
 ·(try simp only [sH] at h65)
  have henc : encM r = ([], 4) := by unfold encM; rw [if_neg (by simp_all)]
  refine cseq ?_; intro K4 hK4
  refine creg ?_
  refine yas ?_
  refine yas ?_
  refine ynil' (kthn (hK4 _ _ ?_))
  clear hK4
  refine cret (kthr ?_)
  first
    | (exfalso; omega; done)
    | (refine kretv2 Tryz.results70 rfl rfl (L1 := [svSeg none 5 []] ++ R) zge ?_
       exact ⟨_, ⟨none, by rw [henc]; rfl, by rw [henc]; exact ⟨rfl, rfl⟩, by rw [henc]; rfl⟩, rfl⟩)
    | (refine kretv2 Tryz.results70 rfl rfl (L1 := [svSeg _ _ _] ++ R) zge ?_
       exact ⟨_, ⟨st, by rw [henc], by rw [henc]; exact okt, by rw [henc]⟩, rfl⟩)
 ·(try simp only [sH] at h65)
  have hmB : r.mayB = true := by simp_all
  have hmay := may_of hmB hI
  have henc : encM r = (recB r, 0) := by unfold encM; rw [if_pos hmB]
  have hk0 := hmay.k0
  have hk1 := hmay.k1
  have hns := hmay.ns
  have hts := hmay.ts
  have hhb := headB_nat hns hts
  refine cskip' (kthn (hK2 _ _ ?_))
  clear hK2
  refine cseq ?_; intro K5 hK5
  refine creg ?_
  refine y (ev_fieldAddr 1 rfl Tryz.underlying100 rfl Tryz.sizeOf53) rfl ?_
  refine y (ev_load rfl Tryz.isAgg53 zin rfl) rfl ?_
  first
    | refine y (ev_len rfl Tryz.underlying53) rfl ?_
    | refine y (ev_lenSv rfl Tryz.underlying53 (by assumption)) rfl ?_
    | refine y (ev_lenV rfl Tryz.underlying53 (RdV.lenVal (by assumption))) rfl ?_
    | refine y (ev_lenV rfl Tryz.underlying53 (RdB.lenVal (by assumption))) rfl ?_
  refine y (ev_fieldAddr 2 rfl Tryz.underlying100 rfl Tryz.sizeOf98) rfl ?_
  refine y (ev_load rfl Tryz.isAgg98 zin rfl) rfl ?_
  first
    | refine y (ev_len rfl Tryz.underlying98) rfl ?_
    | refine y (ev_lenSv rfl Tryz.underlying98 (by assumption)) rfl ?_
    | refine y (ev_lenV rfl Tryz.underlying98 (RdV.lenVal (by assumption))) rfl ?_
    | refine y (ev_lenV rfl Tryz.underlying98 (RdB.lenVal (by assumption))) rfl ?_
  refine y (ev_mul rfl rfl) rfl ?_
  rw [wr (by omega) (by omega)]
  refine y (ev_add rfl rfl) rfl ?_
  rw [wr (by omega) (by omega)]
  refine yas ?_
  refine ynil' (kthn (hK5 _ _ ?_))
  clear hK5
  refine cseq ?_; intro K6 hK6
  refine cseq ?_; intro K7 hK7
  refine creg ?_
  refine y (ev_fieldAddr 1 rfl Tryz.underlying100 rfl Tryz.sizeOf53) rfl ?_
  refine y (ev_load rfl Tryz.isAgg53 zin rfl) rfl ?_
  first
    | refine y (ev_len rfl Tryz.underlying53) rfl ?_
    | refine y (ev_lenSv rfl Tryz.underlying53 (by assumption)) rfl ?_
    | refine y (ev_lenV rfl Tryz.underlying53 (RdV.lenVal (by assumption))) rfl ?_
    | refine y (ev_lenV rfl Tryz.underlying53 (RdB.lenVal (by assumption))) rfl ?_
  refine y (ev_eql rfl rfl) rfl ?_
  refine ynil' (kthn (hK7 _ _ ?_))
  clear hK7
  refine ccond rfl (fun h81 => ?_) (fun h81 => ?_)
  ·(try simp only [sH] at h81)
   refine creg ?_
   refine y (ev_fieldAddr 2 rfl Tryz.underlying100 rfl Tryz.sizeOf98) rfl ?_
   refine y (ev_load rfl Tryz.isAgg98 zin rfl) rfl ?_
   first
     | refine y (ev_len rfl Tryz.underlying98) rfl ?_
     | refine y (ev_lenSv rfl Tryz.underlying98 (by assumption)) rfl ?_
     | refine y (ev_lenV rfl Tryz.underlying98 (RdV.lenVal (by assumption))) rfl ?_
     | refine y (ev_lenV rfl Tryz.underlying98 (RdB.lenVal (by assumption))) rfl ?_
   refine y (ev_add rfl rfl) rfl ?_
   rw [wr (by omega) (by omega)]
   refine yas ?_
   refine ynil' (kthn (hK6 _ _ ?_))
   clear hK6
   refine cseq ?_; intro K8 hK8
   have hJr7 : ∀ x : Nat, (True) → Sk 73 K8 ([(5, svVal (some (x, 2, [])) 2), (1, ptr b1)]) ([sc x [.int .u8 ((r.kind.toNat % 256 : Nat) : Int), .int .u8 ((headB r.nums.length r.texts.length).toNat : Nat)] 5, sc b1 [i64 r.kind, nv, tv] 100] ++ R) := by
    rintro b32 hIr7
    refine hK8 _ _ ?_
    refine cseq ?_; intro K9 hK9
    refine cseq ?_; intro K10 hK10
    refine creg ?_
    refine yas ?_
    refine ynil' (kthn (hK10 _ _ ?_))
    clear hK10
    have hJ1 : ∀ x : Nat × Sv, ((svOk x.2 (encA r x.1).length 1 (bytesV (encA r x.1)) ∧ x.1 ≤ r.nums.length) ∧ (x.1 = r.nums.length)) → Sk 73 K9 ([(6, i64 x.1), (5, svVal x.2 (encA r x.1).length), (1, ptr b1)]) ([svSeg x.2 5 (bytesV (encA r x.1)), sc b1 [i64 r.kind, nv, tv] 100] ++ R) := by
     rintro ⟨k, s⟩ ⟨hI1, hX1⟩
     refine hK9 _ _ ?_
     obtain ⟨oks, hk⟩ := hI1; dsimp only at oks hk ⊢; have hal := encA_len hmay k
     dsimp only at hX1; subst hX1
     refine cseq ?_; intro K11 hK11
     refine cseq ?_; intro K12 hK12
     refine creg ?_
     refine yas ?_
     rw [← encB_zero] at oks ⊢
     refine ynil' (kthn (hK12 _ _ ?_))
     clear hK12
     have hJ2 : ∀ x : Nat × Sv, ((svOk x.2 (encB r x.1).length 1 (bytesV (encB r x.1)) ∧ x.1 ≤ r.texts.length) ∧ (x.1 = r.texts.length)) → Sk 73 K11 ([(7, i64 x.1), (5, svVal x.2 (encB r x.1).length), (1, ptr b1)]) ([svSeg x.2 5 (bytesV (encB r x.1)), sc b1 [i64 r.kind, nv, tv] 100] ++ R) := by
      rintro ⟨z, st⟩ ⟨hI2, hX2⟩
      refine hK11 _ _ ?_
      obtain ⟨okt, hz⟩ := hI2; dsimp only at okt hz ⊢; have hbl := encB_len hmay z; have hbl2 := encB_len hmay (z + 1)
      dsimp only at hX2; subst hX2; rw [encB_all] at okt ⊢
      refine cseq ?_; intro K13 hK13
      refine creg ?_
      refine ymv ?_
      refine yas ?_
      refine yas ?_
      refine ynil' (kthn (hK13 _ _ ?_))
      clear hK13
      refine cret ?_
      first
        | (exfalso; omega; done)
        | (refine kretv2 Tryz.results70 rfl rfl (L1 := [svSeg none 5 []] ++ R) zge ?_
           exact ⟨_, ⟨none, by rw [henc]; rfl, by rw [henc]; exact ⟨rfl, rfl⟩, by rw [henc]; rfl⟩, rfl⟩)
        | (refine kretv2 Tryz.results70 rfl rfl (L1 := [svSeg _ _ _] ++ R) zge ?_
           exact ⟨_, ⟨st, by rw [henc], by rw [henc]; exact okt, by rw [henc]⟩, rfl⟩)
     clear hK11
     refine cblock ?_
     refine cloop (A := Nat × Sv) (fun x => [(7, i64 x.1), (5, svVal x.2 (encB r x.1).length), (1, ptr b1)]) (fun x => [svSeg x.2 5 (bytesV (encB r x.1)), sc b1 [i64 r.kind, nv, tv] 100] ++ R) (fun x => svOk x.2 (encB r x.1).length 1 (bytesV (encB r x.1)) ∧ x.1 ≤ r.texts.length) (fun x => r.texts.length - x.1) ((0, s)) ?_ zsub zge ?_
     · exact ⟨oks, Nat.zero_le _⟩
     rintro ⟨z, st⟩ hI2 KL2 hL2
     have hI2o := hI2
     obtain ⟨okt, hz⟩ := hI2; dsimp only at okt hz ⊢; have hbl := encB_len hmay z; have hbl2 := encB_len hmay (z + 1)
     refine cseq ?_; intro K14 hK14
     refine cseq ?_; intro K15 hK15
     refine creg ?_
     refine ymv ?_
     refine y (ev_fieldAddr 2 rfl Tryz.underlying100 rfl Tryz.sizeOf98) rfl ?_
     refine y (ev_load rfl Tryz.isAgg98 zin rfl) rfl ?_
     first
       | refine y (ev_len rfl Tryz.underlying98) rfl ?_
       | refine y (ev_lenSv rfl Tryz.underlying98 (by assumption)) rfl ?_
       | refine y (ev_lenV rfl Tryz.underlying98 (RdV.lenVal (by assumption))) rfl ?_
       | refine y (ev_lenV rfl Tryz.underlying98 (RdB.lenVal (by assumption))) rfl ?_
     refine y (ev_lss rfl rfl) rfl ?_
     refine ynil' (kthn (hK15 _ _ ?_))
     clear hK15
     refine ccond rfl (fun h97 => ?_) (fun h97 => ?_)
     ·(try simp only [sH] at h97)
      obtain ⟨tt, htt⟩ : ∃ x, r.texts[z]? = some x := ⟨_, List.getElem?_eq_getElem (by omega)⟩
      have h200 := hmay.len tt (List.mem_of_getElem? htt)
      have hbs := encB_succ htt
      refine cskip' (kthn (hK14 _ _ ?_))
      clear hK14
      refine cseq ?_; intro K16 hK16
      refine cblock ?_
      refine cseq ?_; intro K17 hK17
      refine creg ?_
      refine ymv ?_
      refine y (ev_fieldAddr 2 rfl Tryz.underlying100 rfl Tryz.sizeOf98) rfl ?_
      refine y (ev_load rfl Tryz.isAgg98 zin rfl) rfl ?_
      refine ymv ?_
      refine y (ev_ixV ht rfl rfl Tryz.underlying98 Tryz.sizeOf9 (by omega) (by omega)) rfl ?_
      refine y (ev_loadV z ht zge rfl Tryz.isAgg9 (by simp) (strsV_get htt)) rfl ?_
      first
        | refine y (ev_lenStr rfl Tryz.underlying9) rfl ?_
        | refine y (ev_lenS rfl Tryz.underlying9) rfl ?_
      refine y (ev_conv rfl Tryz.underlying3 Tryz.underlying5) rfl ?_
      rw [wu8, show ((tt.length : Nat) : Int) % 256 = ((tt.length : Nat) : Int) by omega]
      refine ya (ac_bsliceR rfl Tryz.underlying50 Tryz.sizeOf5 Tryz.zeroValue5 rfl rfl rfl rfl ⟨⟨_, _, rfl, (by first | rfl | simp), (by first | decide | simp)⟩, trivial⟩ (by dsimp [fillL, splice, vcells, reps] <;> rfl)) rfl ?_
      rintro v L' ⟨b63, rfl, rfl⟩
      refine ya (ac_append (xs := bytesV (encB r z)) (m := (encB r z).length) (k := 1) (us := [.int .u8 ((tt.length : Nat) : Int)]) (size := 1) rfl rfl (by repeat first | exact .z | apply Pk.s) Tryz.underlying50 Tryz.underlying50 (by intro q hq; cases hq) Tryz.typeInfo5 rfl rfl rfl ?ok107 ?src107 ?one107 ?big107) rfl ?_
      case ok107 => exact okt
      case src107 => exact src_at zin rfl rfl
      case one107 => simp [Value.oneCell']
      case big107 => show (_ + _) * 2 ≤ _; omega
      rintro v L' ⟨s64, rfl, ok64, rfl⟩
      rw [bytesV_snoc _ _ (by omega)] at ok64 ⊢
      refine yas ?_
      refine ynil' (kthn (hK17 _ _ ?_))
      clear hK17
      refine creg ?_
      refine ymv ?_
      refine y (ev_fieldAddr 2 rfl Tryz.underlying100 rfl Tryz.sizeOf98) rfl ?_
      refine y (ev_load rfl Tryz.isAgg98 zin rfl) rfl ?_
      refine ymv ?_
      refine y (ev_ixV ht rfl rfl Tryz.underlying98 Tryz.sizeOf9 (by omega) (by omega)) rfl ?_
      refine y (ev_loadV z ht zge rfl Tryz.isAgg9 (by simp) (strsV_get htt)) rfl ?_
      refine ya (ac_append (xs := bytesV (encB r z ++ [UInt8.ofNat tt.length])) (m := (encB r z).length + 1) (k := tt.length) (us := bytesV tt) (size := 1) rfl rfl (by repeat first | exact .z | apply Pk.s) Tryz.underlying50 Tryz.underlying9 (by intro q hq; cases hq) Tryz.typeInfo5 rfl rfl rfl ?ok115 ?src115 ?one115 ?big115) rfl ?_
      case ok115 => exact ok64
      case src115 => exact src_strB
      case one115 => exact bytesV_one _
      case big115 => show (_ + _) * 2 ≤ _; omega
      rintro v L' ⟨s71, rfl, ok71, rfl⟩
      rw [← bytesV_append, ← hbs, show (encB r z).length + 1 + tt.length = (encB r (z + 1)).length by rw [hbs]; simp; omega] at ok71 ⊢
      refine yas ?_
      refine ynil' (kbn (kthn (hK16 _ _ ?_)))
      clear hK16
      refine creg ?_
      refine ymv ?_
      refine y (ev_add rfl rfl) rfl ?_
      rw [show IntKind.i64.wrap ((z:Int) + 1) = ((z+1 : Nat) : Int) by rw [wr (by omega) (by omega)]; rfl]
      refine yas ?_
      refine ynil' (kthn ?_)
      exact hL2 ((z + 1, s71)) (⟨ok71, by dsimp only; omega⟩) (by dsimp only; omega) _ _ zsub zge
     ·(try simp only [sH] at h97)
      refine cexit (kthx (kthx (kbx (kthn ?_))))
      exact ksub zsub zge (hJ2 ⟨z, st⟩ ⟨hI2o, by dsimp only; omega⟩)
    clear hK9
    refine cblock ?_
    refine cloop (A := Nat × Sv) (fun x => [(6, i64 x.1), (5, svVal x.2 (encA r x.1).length), (1, ptr b1)]) (fun x => [svSeg x.2 5 (bytesV (encA r x.1)), sc b1 [i64 r.kind, nv, tv] 100] ++ R) (fun x => svOk x.2 (encA r x.1).length 1 (bytesV (encA r x.1)) ∧ x.1 ≤ r.nums.length) (fun x => r.nums.length - x.1) ((0, some (b32, 2, []))) ?_ zsub zge ?_
    · exact ⟨⟨by simp [encA, numsB], by decide, by simp [encA, numsB], by simp [encA, numsB]⟩, Nat.zero_le _⟩
    rintro ⟨k, s⟩ hI1 KL1 hL1
    have hI1o := hI1
    obtain ⟨oks, hk⟩ := hI1; dsimp only at oks hk ⊢; have hal := encA_len hmay k
    refine cseq ?_; intro K18 hK18
    refine cseq ?_; intro K19 hK19
    refine creg ?_
    refine ymv ?_
    refine y (ev_fieldAddr 1 rfl Tryz.underlying100 rfl Tryz.sizeOf53) rfl ?_
    refine y (ev_load rfl Tryz.isAgg53 zin rfl) rfl ?_
    first
      | refine y (ev_len rfl Tryz.underlying53) rfl ?_
      | refine y (ev_lenSv rfl Tryz.underlying53 (by assumption)) rfl ?_
      | refine y (ev_lenV rfl Tryz.underlying53 (RdV.lenVal (by assumption))) rfl ?_
      | refine y (ev_lenV rfl Tryz.underlying53 (RdB.lenVal (by assumption))) rfl ?_
    refine y (ev_lss rfl rfl) rfl ?_
    refine ynil' (kthn (hK19 _ _ ?_))
    clear hK19
    refine ccond rfl (fun h125 => ?_) (fun h125 => ?_)
    ·(try simp only [sH] at h125)
     obtain ⟨nn, hnn⟩ : ∃ x, r.nums[k]? = some x := ⟨_, List.getElem?_eq_getElem (by omega)⟩
     obtain ⟨hlo, hhi⟩ := hI nn (List.mem_of_getElem? hnn)
     have hl10 := numB_len10 (zig_lt hlo hhi)
     refine cskip' (kthn (hK18 _ _ ?_))
     clear hK18
     refine cseq ?_; intro K20 hK20
     refine cblock ?_
     refine creg ?_
     refine ymv ?_
     refine y (ev_fieldAddr 1 rfl Tryz.underlying100 rfl Tryz.sizeOf53) rfl ?_
     refine y (ev_load rfl Tryz.isAgg53 zin rfl) rfl ?_
     refine ymv ?_
     refine y (ev_ixV hn rfl rfl Tryz.underlying53 Tryz.sizeOf2 (by omega) (by omega)) rfl ?_
     refine y (ev_loadV k hn zge rfl Tryz.isAgg2 (by simp) (intsV_get hnn)) rfl ?_
     refine ycall (rNum ?lo132 ?hi132) rfl Tryz.call91 ztk rfl ?_
     case lo132 => exact hlo
     case hi132 => exact hhi
     rintro v L' ⟨s46, rfl, ok46, rfl⟩
     refine ya (ac_append (xs := bytesV (encA r k)) (m := (encA r k).length) (k := (numB (zig nn)).length) (us := bytesV (numB (zig nn))) (size := 1) rfl rfl (by repeat first | exact .z | apply Pk.s) Tryz.underlying50 Tryz.underlying50 (by intro q hq; cases hq) Tryz.typeInfo5 rfl rfl rfl ?ok133 ?src133 ?one133 ?big133) rfl ?_
     case ok133 => exact oks
     case src133 => exact src_sv zin ok46
     case one133 => exact bytesV_one _
     case big133 => show (_ + _) * 2 ≤ _; omega
     rintro v L' ⟨s47, rfl, ok47, rfl⟩
     rw [← bytesV_append, ← List.length_append, ← encA_succ hnn] at ok47 ⊢
     refine yas ?_
     refine ynil' (kbn (kthn (hK20 _ _ ?_)))
     clear hK20
     refine creg ?_
     refine ymv ?_
     refine y (ev_add rfl rfl) rfl ?_
     rw [show IntKind.i64.wrap ((k:Int) + 1) = ((k+1 : Nat) : Int) by rw [wr (by omega) (by omega)]; rfl]
     refine yas ?_
     refine ynil' (kthn ?_)
     exact hL1 ((k + 1, s47)) (⟨ok47, by dsimp only; omega⟩) (by dsimp only; omega) _ _ zsub zge
    ·(try simp only [sH] at h125)
     refine cexit (kthx (kthx (kbx (kthn ?_))))
     exact ksub zsub zge (hJ1 ⟨k, s⟩ ⟨hI1o, by dsimp only; omega⟩)
   clear hK8
   refine creg ?_
   refine y (ev_fieldAddr 0 rfl Tryz.underlying100 rfl Tryz.sizeOf3) rfl ?_
   refine y (ev_load rfl Tryz.isAgg3 zin rfl) rfl ?_
   refine y (ev_conv rfl Tryz.underlying3 Tryz.underlying5) rfl ?_
   rw [wu8, show r.kind % 256 = ((r.kind.toNat % 256 : Nat) : Int) by omega]
   refine ymv ?_
   refine y (ev_conv rfl Tryz.underlying3 Tryz.underlying5) rfl ?_
   rw [wu8]; first | rw [show ((240 : Int) + (r.texts.length : Int)) % 256 = (((headB r.nums.length r.texts.length).toNat : Nat) : Int) by rw [hhb, if_pos (by omega)]; omega] | rw [show ((r.nums.length : Int) + 16 * (r.texts.length : Int)) % 256 = (((headB r.nums.length r.texts.length).toNat : Nat) : Int) by rw [hhb, if_neg (by omega)]; omega]
   refine ya (ac_bsliceR rfl Tryz.underlying50 Tryz.sizeOf5 Tryz.zeroValue5 rfl rfl rfl rfl ⟨⟨_, _, rfl, (by first | rfl | simp), (by first | decide | simp)⟩, ⟨⟨_, _, rfl, (by first | rfl | simp), (by first | decide | simp)⟩, trivial⟩⟩ (by dsimp [fillL, splice, vcells, reps] <;> rfl)) rfl ?_
   rintro v L' ⟨b32, rfl, rfl⟩
   refine yas ?_
   refine ynil' (kthn ?_)
   first
     | (exfalso; omega; done)
     | exact ksub zsub zge (hJr7 b32 (trivial))
  ·(try simp only [sH] at h81)
   refine cskip' (kthn (hK6 _ _ ?_))
   clear hK6
   refine cseq ?_; intro K21 hK21
   have hJr7 : ∀ x : Nat, (True) → Sk 73 K21 ([(5, svVal (some (x, 2, [])) 2), (1, ptr b1)]) ([sc x [.int .u8 ((r.kind.toNat % 256 : Nat) : Int), .int .u8 ((headB r.nums.length r.texts.length).toNat : Nat)] 5, sc b1 [i64 r.kind, nv, tv] 100] ++ R) := by
    rintro b32 hIr7
    refine hK21 _ _ ?_
    refine cseq ?_; intro K22 hK22
    refine cseq ?_; intro K23 hK23
    refine creg ?_
    refine yas ?_
    refine ynil' (kthn (hK23 _ _ ?_))
    clear hK23
    have hJ1 : ∀ x : Nat × Sv, ((svOk x.2 (encA r x.1).length 1 (bytesV (encA r x.1)) ∧ x.1 ≤ r.nums.length) ∧ (x.1 = r.nums.length)) → Sk 73 K22 ([(6, i64 x.1), (5, svVal x.2 (encA r x.1).length), (1, ptr b1)]) ([svSeg x.2 5 (bytesV (encA r x.1)), sc b1 [i64 r.kind, nv, tv] 100] ++ R) := by
     rintro ⟨k, s⟩ ⟨hI1, hX1⟩
     refine hK22 _ _ ?_
     obtain ⟨oks, hk⟩ := hI1; dsimp only at oks hk ⊢; have hal := encA_len hmay k
     dsimp only at hX1; subst hX1
     refine cseq ?_; intro K24 hK24
     refine cseq ?_; intro K25 hK25
     refine creg ?_
     refine yas ?_
     rw [← encB_zero] at oks ⊢
     refine ynil' (kthn (hK25 _ _ ?_))
     clear hK25
     have hJ2 : ∀ x : Nat × Sv, ((svOk x.2 (encB r x.1).length 1 (bytesV (encB r x.1)) ∧ x.1 ≤ r.texts.length) ∧ (x.1 = r.texts.length)) → Sk 73 K24 ([(7, i64 x.1), (5, svVal x.2 (encB r x.1).length), (1, ptr b1)]) ([svSeg x.2 5 (bytesV (encB r x.1)), sc b1 [i64 r.kind, nv, tv] 100] ++ R) := by
      rintro ⟨z, st⟩ ⟨hI2, hX2⟩
      refine hK24 _ _ ?_
      obtain ⟨okt, hz⟩ := hI2; dsimp only at okt hz ⊢; have hbl := encB_len hmay z; have hbl2 := encB_len hmay (z + 1)
      dsimp only at hX2; subst hX2; rw [encB_all] at okt ⊢
      refine cseq ?_; intro K26 hK26
      refine creg ?_
      refine ymv ?_
      refine yas ?_
      refine yas ?_
      refine ynil' (kthn (hK26 _ _ ?_))
      clear hK26
      refine cret ?_
      first
        | (exfalso; omega; done)
        | (refine kretv2 Tryz.results70 rfl rfl (L1 := [svSeg none 5 []] ++ R) zge ?_
           exact ⟨_, ⟨none, by rw [henc]; rfl, by rw [henc]; exact ⟨rfl, rfl⟩, by rw [henc]; rfl⟩, rfl⟩)
        | (refine kretv2 Tryz.results70 rfl rfl (L1 := [svSeg _ _ _] ++ R) zge ?_
           exact ⟨_, ⟨st, by rw [henc], by rw [henc]; exact okt, by rw [henc]⟩, rfl⟩)
     clear hK24
     refine cblock ?_
     refine cloop (A := Nat × Sv) (fun x => [(7, i64 x.1), (5, svVal x.2 (encB r x.1).length), (1, ptr b1)]) (fun x => [svSeg x.2 5 (bytesV (encB r x.1)), sc b1 [i64 r.kind, nv, tv] 100] ++ R) (fun x => svOk x.2 (encB r x.1).length 1 (bytesV (encB r x.1)) ∧ x.1 ≤ r.texts.length) (fun x => r.texts.length - x.1) ((0, s)) ?_ zsub zge ?_
     · exact ⟨oks, Nat.zero_le _⟩
     rintro ⟨z, st⟩ hI2 KL2 hL2
     have hI2o := hI2
     obtain ⟨okt, hz⟩ := hI2; dsimp only at okt hz ⊢; have hbl := encB_len hmay z; have hbl2 := encB_len hmay (z + 1)
     refine cseq ?_; intro K27 hK27
     refine cseq ?_; intro K28 hK28
     refine creg ?_
     refine ymv ?_
     refine y (ev_fieldAddr 2 rfl Tryz.underlying100 rfl Tryz.sizeOf98) rfl ?_
     refine y (ev_load rfl Tryz.isAgg98 zin rfl) rfl ?_
     first
       | refine y (ev_len rfl Tryz.underlying98) rfl ?_
       | refine y (ev_lenSv rfl Tryz.underlying98 (by assumption)) rfl ?_
       | refine y (ev_lenV rfl Tryz.underlying98 (RdV.lenVal (by assumption))) rfl ?_
       | refine y (ev_lenV rfl Tryz.underlying98 (RdB.lenVal (by assumption))) rfl ?_
     refine y (ev_lss rfl rfl) rfl ?_
     refine ynil' (kthn (hK28 _ _ ?_))
     clear hK28
     refine ccond rfl (fun h155 => ?_) (fun h155 => ?_)
     ·(try simp only [sH] at h155)
      obtain ⟨tt, htt⟩ : ∃ x, r.texts[z]? = some x := ⟨_, List.getElem?_eq_getElem (by omega)⟩
      have h200 := hmay.len tt (List.mem_of_getElem? htt)
      have hbs := encB_succ htt
      refine cskip' (kthn (hK27 _ _ ?_))
      clear hK27
      refine cseq ?_; intro K29 hK29
      refine cblock ?_
      refine cseq ?_; intro K30 hK30
      refine creg ?_
      refine ymv ?_
      refine y (ev_fieldAddr 2 rfl Tryz.underlying100 rfl Tryz.sizeOf98) rfl ?_
      refine y (ev_load rfl Tryz.isAgg98 zin rfl) rfl ?_
      refine ymv ?_
      refine y (ev_ixV ht rfl rfl Tryz.underlying98 Tryz.sizeOf9 (by omega) (by omega)) rfl ?_
      refine y (ev_loadV z ht zge rfl Tryz.isAgg9 (by simp) (strsV_get htt)) rfl ?_
      first
        | refine y (ev_lenStr rfl Tryz.underlying9) rfl ?_
        | refine y (ev_lenS rfl Tryz.underlying9) rfl ?_
      refine y (ev_conv rfl Tryz.underlying3 Tryz.underlying5) rfl ?_
      rw [wu8, show ((tt.length : Nat) : Int) % 256 = ((tt.length : Nat) : Int) by omega]
      refine ya (ac_bsliceR rfl Tryz.underlying50 Tryz.sizeOf5 Tryz.zeroValue5 rfl rfl rfl rfl ⟨⟨_, _, rfl, (by first | rfl | simp), (by first | decide | simp)⟩, trivial⟩ (by dsimp [fillL, splice, vcells, reps] <;> rfl)) rfl ?_
      rintro v L' ⟨b63, rfl, rfl⟩
      refine ya (ac_append (xs := bytesV (encB r z)) (m := (encB r z).length) (k := 1) (us := [.int .u8 ((tt.length : Nat) : Int)]) (size := 1) rfl rfl (by repeat first | exact .z | apply Pk.s) Tryz.underlying50 Tryz.underlying50 (by intro q hq; cases hq) Tryz.typeInfo5 rfl rfl rfl ?ok165 ?src165 ?one165 ?big165) rfl ?_
      case ok165 => exact okt
      case src165 => exact src_at zin rfl rfl
      case one165 => simp [Value.oneCell']
      case big165 => show (_ + _) * 2 ≤ _; omega
      rintro v L' ⟨s64, rfl, ok64, rfl⟩
      rw [bytesV_snoc _ _ (by omega)] at ok64 ⊢
      refine yas ?_
      refine ynil' (kthn (hK30 _ _ ?_))
      clear hK30
      refine creg ?_
      refine ymv ?_
      refine y (ev_fieldAddr 2 rfl Tryz.underlying100 rfl Tryz.sizeOf98) rfl ?_
      refine y (ev_load rfl Tryz.isAgg98 zin rfl) rfl ?_
      refine ymv ?_
      refine y (ev_ixV ht rfl rfl Tryz.underlying98 Tryz.sizeOf9 (by omega) (by omega)) rfl ?_
      refine y (ev_loadV z ht zge rfl Tryz.isAgg9 (by simp) (strsV_get htt)) rfl ?_
      refine ya (ac_append (xs := bytesV (encB r z ++ [UInt8.ofNat tt.length])) (m := (encB r z).length + 1) (k := tt.length) (us := bytesV tt) (size := 1) rfl rfl (by repeat first | exact .z | apply Pk.s) Tryz.underlying50 Tryz.underlying9 (by intro q hq; cases hq) Tryz.typeInfo5 rfl rfl rfl ?ok173 ?src173 ?one173 ?big173) rfl ?_
      case ok173 => exact ok64
      case src173 => exact src_strB
      case one173 => exact bytesV_one _
      case big173 => show (_ + _) * 2 ≤ _; omega
      rintro v L' ⟨s71, rfl, ok71, rfl⟩
      rw [← bytesV_append, ← hbs, show (encB r z).length + 1 + tt.length = (encB r (z + 1)).length by rw [hbs]; simp; omega] at ok71 ⊢
      refine yas ?_
      refine ynil' (kbn (kthn (hK29 _ _ ?_)))
      clear hK29
      refine creg ?_
      refine ymv ?_
      refine y (ev_add rfl rfl) rfl ?_
      rw [show IntKind.i64.wrap ((z:Int) + 1) = ((z+1 : Nat) : Int) by rw [wr (by omega) (by omega)]; rfl]
      refine yas ?_
      refine ynil' (kthn ?_)
      exact hL2 ((z + 1, s71)) (⟨ok71, by dsimp only; omega⟩) (by dsimp only; omega) _ _ zsub zge
     ·(try simp only [sH] at h155)
      refine cexit (kthx (kthx (kbx (kthn ?_))))
      exact ksub zsub zge (hJ2 ⟨z, st⟩ ⟨hI2o, by dsimp only; omega⟩)
    clear hK22
    refine cblock ?_
    refine cloop (A := Nat × Sv) (fun x => [(6, i64 x.1), (5, svVal x.2 (encA r x.1).length), (1, ptr b1)]) (fun x => [svSeg x.2 5 (bytesV (encA r x.1)), sc b1 [i64 r.kind, nv, tv] 100] ++ R) (fun x => svOk x.2 (encA r x.1).length 1 (bytesV (encA r x.1)) ∧ x.1 ≤ r.nums.length) (fun x => r.nums.length - x.1) ((0, some (b32, 2, []))) ?_ zsub zge ?_
    · exact ⟨⟨by simp [encA, numsB], by decide, by simp [encA, numsB], by simp [encA, numsB]⟩, Nat.zero_le _⟩
    rintro ⟨k, s⟩ hI1 KL1 hL1
    have hI1o := hI1
    obtain ⟨oks, hk⟩ := hI1; dsimp only at oks hk ⊢; have hal := encA_len hmay k
    refine cseq ?_; intro K31 hK31
    refine cseq ?_; intro K32 hK32
    refine creg ?_
    refine ymv ?_
    refine y (ev_fieldAddr 1 rfl Tryz.underlying100 rfl Tryz.sizeOf53) rfl ?_
    refine y (ev_load rfl Tryz.isAgg53 zin rfl) rfl ?_
    first
      | refine y (ev_len rfl Tryz.underlying53) rfl ?_
      | refine y (ev_lenSv rfl Tryz.underlying53 (by assumption)) rfl ?_
      | refine y (ev_lenV rfl Tryz.underlying53 (RdV.lenVal (by assumption))) rfl ?_
      | refine y (ev_lenV rfl Tryz.underlying53 (RdB.lenVal (by assumption))) rfl ?_
    refine y (ev_lss rfl rfl) rfl ?_
    refine ynil' (kthn (hK32 _ _ ?_))
    clear hK32
    refine ccond rfl (fun h183 => ?_) (fun h183 => ?_)
    ·(try simp only [sH] at h183)
     obtain ⟨nn, hnn⟩ : ∃ x, r.nums[k]? = some x := ⟨_, List.getElem?_eq_getElem (by omega)⟩
     obtain ⟨hlo, hhi⟩ := hI nn (List.mem_of_getElem? hnn)
     have hl10 := numB_len10 (zig_lt hlo hhi)
     refine cskip' (kthn (hK31 _ _ ?_))
     clear hK31
     refine cseq ?_; intro K33 hK33
     refine cblock ?_
     refine creg ?_
     refine ymv ?_
     refine y (ev_fieldAddr 1 rfl Tryz.underlying100 rfl Tryz.sizeOf53) rfl ?_
     refine y (ev_load rfl Tryz.isAgg53 zin rfl) rfl ?_
     refine ymv ?_
     refine y (ev_ixV hn rfl rfl Tryz.underlying53 Tryz.sizeOf2 (by omega) (by omega)) rfl ?_
     refine y (ev_loadV k hn zge rfl Tryz.isAgg2 (by simp) (intsV_get hnn)) rfl ?_
     refine ycall (rNum ?lo190 ?hi190) rfl Tryz.call91 ztk rfl ?_
     case lo190 => exact hlo
     case hi190 => exact hhi
     rintro v L' ⟨s46, rfl, ok46, rfl⟩
     refine ya (ac_append (xs := bytesV (encA r k)) (m := (encA r k).length) (k := (numB (zig nn)).length) (us := bytesV (numB (zig nn))) (size := 1) rfl rfl (by repeat first | exact .z | apply Pk.s) Tryz.underlying50 Tryz.underlying50 (by intro q hq; cases hq) Tryz.typeInfo5 rfl rfl rfl ?ok191 ?src191 ?one191 ?big191) rfl ?_
     case ok191 => exact oks
     case src191 => exact src_sv zin ok46
     case one191 => exact bytesV_one _
     case big191 => show (_ + _) * 2 ≤ _; omega
     rintro v L' ⟨s47, rfl, ok47, rfl⟩
     rw [← bytesV_append, ← List.length_append, ← encA_succ hnn] at ok47 ⊢
     refine yas ?_
     refine ynil' (kbn (kthn (hK33 _ _ ?_)))
     clear hK33
     refine creg ?_
     refine ymv ?_
     refine y (ev_add rfl rfl) rfl ?_
     rw [show IntKind.i64.wrap ((k:Int) + 1) = ((k+1 : Nat) : Int) by rw [wr (by omega) (by omega)]; rfl]
     refine yas ?_
     refine ynil' (kthn ?_)
     exact hL1 ((k + 1, s47)) (⟨ok47, by dsimp only; omega⟩) (by dsimp only; omega) _ _ zsub zge
    ·(try simp only [sH] at h183)
     refine cexit (kthx (kthx (kbx (kthn ?_))))
     exact ksub zsub zge (hJ1 ⟨k, s⟩ ⟨hI1o, by dsimp only; omega⟩)
   clear hK21
   refine creg ?_
   refine y (ev_fieldAddr 0 rfl Tryz.underlying100 rfl Tryz.sizeOf3) rfl ?_
   refine y (ev_load rfl Tryz.isAgg3 zin rfl) rfl ?_
   refine y (ev_conv rfl Tryz.underlying3 Tryz.underlying5) rfl ?_
   rw [wu8, show r.kind % 256 = ((r.kind.toNat % 256 : Nat) : Int) by omega]
   refine ymv ?_
   refine y (ev_conv rfl Tryz.underlying3 Tryz.underlying5) rfl ?_
   rw [wu8]; first | rw [show ((240 : Int) + (r.texts.length : Int)) % 256 = (((headB r.nums.length r.texts.length).toNat : Nat) : Int) by rw [hhb, if_pos (by omega)]; omega] | rw [show ((r.nums.length : Int) + 16 * (r.texts.length : Int)) % 256 = (((headB r.nums.length r.texts.length).toNat : Nat) : Int) by rw [hhb, if_neg (by omega)]; omega]
   refine ya (ac_bsliceR rfl Tryz.underlying50 Tryz.sizeOf5 Tryz.zeroValue5 rfl rfl rfl rfl ⟨⟨_, _, rfl, (by first | rfl | simp), (by first | decide | simp)⟩, ⟨⟨_, _, rfl, (by first | rfl | simp), (by first | decide | simp)⟩, trivial⟩⟩ (by dsimp [fillL, splice, vcells, reps] <;> rfl)) rfl ?_
   rintro v L' ⟨b32, rfl, rfl⟩
   refine yas ?_
   refine ynil' (kthn ?_)
   first
     | (exfalso; omega; done)
     | exact ksub zsub zge (hJr7 b32 (trivial))
theorem quo32 {su c : Nat} (h : su < 4294967296) : IntKind.u32.wrap (((su : Nat) : Int).tdiv ((c : Nat) : Int)) = ((su / c : Nat) : Int) := by
 have : su / c ≤ su := Nat.div_le_self _ _
 rw [wu32, show ((su : Nat) : Int).tdiv ((c : Nat) : Int) = ((su / c : Nat) : Int) from rfl]
 generalize su / c = x at *
 omega
theorem rFramed [Env] {R : List Seg} {v : Value} {rb : Bytes} (hb : RdY R v rb) (h1 : rb.length ≤ 200) : Con Tryz.prog 108 [v] [] R (KSv 5 (framed rb).length 1 (bytesV (framed rb)) []) := by
 have hv := hb.rd
 refine con_enter Tryz.func108 Tryz.ntmps108 rfl rfl ?_
 refine cseq ?_; intro K1 hK1
 refine creg ?_
 refine yas ?_
 refine ynil' (kthn (hK1 _ _ ?_))
 clear hK1
 refine cseq ?_; intro K2 hK2
 refine creg ?_
 refine ymv ?_
 first
   | refine y (ev_len rfl Tryz.underlying50) rfl ?_
   | refine y (ev_lenSv rfl Tryz.underlying50 (by assumption)) rfl ?_
   | refine y (ev_lenV rfl Tryz.underlying50 (RdV.lenVal (by assumption))) rfl ?_
   | refine y (ev_lenV rfl Tryz.underlying50 (RdB.lenVal (by assumption))) rfl ?_
 refine y (ev_conv rfl Tryz.underlying3 Tryz.underlying5) rfl ?_
 rw [wu8, show ((rb.length : Nat) : Int) % 256 = ((rb.length : Nat) : Int) by omega]
 refine ya (ac_bsliceR rfl Tryz.underlying50 Tryz.sizeOf5 Tryz.zeroValue5 rfl rfl rfl rfl ⟨⟨_, _, rfl, (by first | rfl | simp), (by first | decide | simp)⟩, trivial⟩ (by dsimp [fillL, splice, vcells, reps] <;> rfl)) rfl ?_
 rintro v L' ⟨b8, rfl, rfl⟩
 refine ymv ?_
 refine ya (ac_append (s := some (b8, 1, [])) (xs := [.int .u8 ((rb.length : Nat) : Int)]) (m := 1) (k := rb.length) (us := bytesV rb) (size := 1) rfl rfl (by repeat first | exact .z | apply Pk.s) Tryz.underlying50 Tryz.underlying50 (by intro q hq; cases hq) Tryz.typeInfo5 rfl rfl rfl ?ok209 ?src209 ?one209 ?big209) rfl ?_
 case ok209 => exact ⟨Nat.le_refl _, by decide, rfl, rfl⟩
 case src209 => exact (hv.mono zge).bytes.src
 case one209 => exact bytesV_one _
 case big209 => show (_ + _) * 2 ≤ _; omega
 rintro v L' ⟨s10, rfl, ok10, rfl⟩
 have hbl : 1 + rb.length = (UInt8.ofNat rb.length :: rb).length := by simp; omega
 rw [show [Value.int .u8 ((rb.length : Nat) : Int)] ++ bytesV rb = bytesV (UInt8.ofNat rb.length :: rb) by simp [bytesV]; omega, hbl] at ok10 ⊢
 have hbl2 : (UInt8.ofNat rb.length :: rb).length ≤ 201 := by simp; omega
 have hfr : framed rb = be4 (sumM (UInt8.ofNat rb.length :: rb)) ++ (UInt8.ofNat rb.length :: rb) := rfl
 generalize UInt8.ofNat rb.length :: rb = rc at *
 refine yas ?_
 refine ynil' (kthn (hK2 _ _ ?_))
 clear hK2
 refine cseq ?_; intro K3 hK3
 refine creg ?_
 refine ymv ?_
 refine ycall (rSum (bs := rc) ?bs212 ?len212) rfl Tryz.call110 ztk rfl ?_
 case bs212 => exact rdV_sv zin ok10
 case len212 => omega
 rintro v L' ⟨rfl, rfl⟩
 have hsu := sumM_lt rc
 generalize sumM rc = su at *
 refine yas ?_
 refine ynil' (kthn (hK3 _ _ ?_))
 clear hK3
 refine cseq ?_; intro K4 hK4
 refine creg ?_
 refine ymv ?_
 refine y (ev_quo rfl rfl (by decide)) rfl ?_
 rw [show IntKind.u32.wrap (((su : Nat) : Int).tdiv 16777216) = ((su / 16777216 : Nat) : Int) from quo32 (c := 16777216) hsu]
 refine y (ev_conv rfl Tryz.underlying175 Tryz.underlying5) rfl ?_
 rw [wu8, show ((su / 16777216 : Nat) : Int) % 256 = ((su / 16777216 % 256 : Nat) : Int) by omega]
 refine ymv ?_
 refine y (ev_quo rfl rfl (by decide)) rfl ?_
 rw [show IntKind.u32.wrap (((su : Nat) : Int).tdiv 65536) = ((su / 65536 : Nat) : Int) from quo32 (c := 65536) hsu]
 refine y (ev_conv rfl Tryz.underlying175 Tryz.underlying5) rfl ?_
 rw [wu8, show ((su / 65536 : Nat) : Int) % 256 = ((su / 65536 % 256 : Nat) : Int) by omega]
 refine ymv ?_
 refine y (ev_quo rfl rfl (by decide)) rfl ?_
 rw [show IntKind.u32.wrap (((su : Nat) : Int).tdiv 256) = ((su / 256 : Nat) : Int) from quo32 (c := 256) hsu]
 refine y (ev_conv rfl Tryz.underlying175 Tryz.underlying5) rfl ?_
 rw [wu8, show ((su / 256 : Nat) : Int) % 256 = ((su / 256 % 256 : Nat) : Int) by omega]
 refine ymv ?_
 refine y (ev_conv rfl Tryz.underlying175 Tryz.underlying5) rfl ?_
 rw [wu8, show ((su : Nat) : Int) % 256 = ((su % 256 : Nat) : Int) by omega]
 refine ya (ac_bsliceR rfl Tryz.underlying50 Tryz.sizeOf5 Tryz.zeroValue5 rfl rfl rfl rfl ⟨⟨_, _, rfl, (by first | rfl | simp), (by first | decide | simp)⟩, ⟨⟨_, _, rfl, (by first | rfl | simp), (by first | decide | simp)⟩, ⟨⟨_, _, rfl, (by first | rfl | simp), (by first | decide | simp)⟩, ⟨⟨_, _, rfl, (by first | rfl | simp), (by first | decide | simp)⟩, trivial⟩⟩⟩⟩ (by dsimp [fillL, splice, vcells, reps] <;> rfl)) rfl ?_
 rintro v L' ⟨b24, rfl, rfl⟩
 refine ymv ?_
 refine ya (ac_append (s := some (b24, 4, [])) (xs := be4V su) (m := 4) (k := rc.length) (us := bytesV rc) (size := 1) rfl rfl (by repeat first | exact .z | apply Pk.s) Tryz.underlying50 Tryz.underlying50 (by intro q hq; cases hq) Tryz.typeInfo5 rfl rfl rfl ?ok227 ?src227 ?one227 ?big227) rfl ?_
 case ok227 => exact ⟨Nat.le_refl _, by decide, rfl, rfl⟩
 case src227 => exact src_sv zin ok10
 case one227 => exact bytesV_one _
 case big227 => show (_ + _) * 2 ≤ _; omega
 rintro v L' ⟨s26, rfl, ok26, rfl⟩
 rw [be4V_eq, ← bytesV_append, show 4 + rc.length = (be4 su ++ rc).length by simp [be4]; omega, ← hfr] at ok26 ⊢
 refine yas ?_
 refine ynil' (kthn (hK4 _ _ ?_))
 clear hK4
 refine cret ?_
 first
   | (exfalso; omega; done)
   | (refine kretv Tryz.results108 rfl (L1 := [svSeg _ _ _] ++ R) zge ?_
      exact ⟨_, ⟨s26, rfl, ok26, rfl⟩, rfl⟩)
theorem rSlot [Env] {R : List Seg} {gen : Int} {s : Bytes} (h1 : -9223372036854775808 ≤ gen) (h2 : gen ≤ 9223372036854775807) :
   Con Tryz.prog 92 [i64 gen, str s] [] R (KSv 5 (slotM gen s).length 1 (bytesV (slotM gen s)) []) := by
 refine con_enter Tryz.func92 Tryz.ntmps92 rfl rfl ?_
 refine cseq ?_; intro K1 hK1
 refine creg ?_
 refine yas ?_
 refine ynil' (kthn (hK1 _ _ ?_))
 clear hK1
 refine cseq ?_; intro K2 hK2
 refine cseq ?_; intro K3 hK3
 refine creg ?_
 refine ymv ?_
 refine y (ev_lss rfl rfl) rfl ?_
 refine ymv ?_
 refine ysplit 9 rfl (fun h233 => ?_) (fun h233 => ?_)
 ·(try simp only [sH] at h233)
  refine ygz ?_
  refine ygz ?_
  refine ypa ?_
  refine ymv ?_
  refine ygz ?_
  refine ygz ?_
  refine ygz ?_
  refine ypa ?_
  refine ynil' (kthn (hK3 _ _ ?_))
  clear hK3
  refine ccond1 rfl ?_
  refine cseq ?_; intro K4 hK4
  refine creg ?_
  refine yas ?_
  refine ynil' (kthn (hK4 _ _ ?_))
  clear hK4
  refine cret (kthr ?_)
  first
    | (exfalso; omega; done)
    | (refine kretv Tryz.results92 rfl (L1 := [svSeg none 5 []] ++ R) zge ?_
       have hno : slotM gen s = [] := by
         unfold slotM; rw [if_neg (by rw [slotOk_iff]; omega)]
       rw [hno]
       exact ⟨_, ⟨none, rfl, ⟨rfl, rfl⟩, rfl⟩, rfl⟩)
    | (refine kretv Tryz.results92 rfl (L1 := [svSeg _ _ _] ++ R) zge ?_
       exact ⟨_, ⟨s28, rfl, ok28, rfl⟩, rfl⟩)
 ·(try simp only [sH] at h233)
  refine ygo ?_
  refine ymv ?_
  refine ygo ?_
  refine y (ev_gtr rfl rfl) rfl ?_
  refine ypb ?_
  refine ymv ?_
  refine ysplit 13 rfl (fun h242 => ?_) (fun h242 => ?_)
  ·(try simp only [sH] at h242)
   refine ygz ?_
   refine ygz ?_
   refine ygz ?_
   refine ypa ?_
   refine ynil' (kthn (hK3 _ _ ?_))
   clear hK3
   refine ccond1 rfl ?_
   refine cseq ?_; intro K5 hK5
   refine creg ?_
   refine yas ?_
   refine ynil' (kthn (hK5 _ _ ?_))
   clear hK5
   refine cret (kthr ?_)
   first
     | (exfalso; omega; done)
     | (refine kretv Tryz.results92 rfl (L1 := [svSeg none 5 []] ++ R) zge ?_
        have hno : slotM gen s = [] := by
          unfold slotM; rw [if_neg (by rw [slotOk_iff]; omega)]
        rw [hno]
        exact ⟨_, ⟨none, rfl, ⟨rfl, rfl⟩, rfl⟩, rfl⟩)
     | (refine kretv Tryz.results92 rfl (L1 := [svSeg _ _ _] ++ R) zge ?_
        exact ⟨_, ⟨s28, rfl, ok28, rfl⟩, rfl⟩)
  ·(try simp only [sH] at h242)
   refine ygo ?_
   refine ymv ?_
   refine ygo ?_
   first
     | refine y (ev_lenStr rfl Tryz.underlying9) rfl ?_
     | refine y (ev_lenS rfl Tryz.underlying9) rfl ?_
   refine ygo ?_
   refine y (ev_gtr rfl rfl) rfl ?_
   refine ypb ?_
   refine ynil' (kthn (hK3 _ _ ?_))
   clear hK3
   refine ccond rfl (fun h249 => ?_) (fun h249 => ?_)
   ·(try simp only [sH] at h249)
    refine cseq ?_; intro K6 hK6
    refine creg ?_
    refine yas ?_
    refine ynil' (kthn (hK6 _ _ ?_))
    clear hK6
    refine cret (kthr ?_)
    first
      | (exfalso; omega; done)
      | (refine kretv Tryz.results92 rfl (L1 := [svSeg none 5 []] ++ R) zge ?_
         have hno : slotM gen s = [] := by
           unfold slotM; rw [if_neg (by rw [slotOk_iff]; omega)]
         rw [hno]
         exact ⟨_, ⟨none, rfl, ⟨rfl, rfl⟩, rfl⟩, rfl⟩)
      | (refine kretv Tryz.results92 rfl (L1 := [svSeg _ _ _] ++ R) zge ?_
         exact ⟨_, ⟨s28, rfl, ok28, rfl⟩, rfl⟩)
   ·(try simp only [sH] at h249)
    refine cskip' (kthn (hK2 _ _ ?_))
    clear hK2
    refine cseq ?_; intro K7 hK7
    refine creg ?_
    have hok : slotOk gen s = true := by rw [slotOk_iff]; omega
    have hmay := slot_may hok
    have henc : encM (slotR gen s) = (recB (slotR gen s), 0) := by unfold encM; rw [if_pos (mayB_of hmay)]
    obtain ⟨hlen, hlen2⟩ := slotB_len hok
    refine ymv ?_
    refine ya (ac_bsliceR rfl Tryz.underlying53 Tryz.sizeOf2 Tryz.zeroValue2 rfl rfl rfl rfl ⟨⟨_, _, rfl, (by first | rfl | simp), (by first | decide | simp)⟩, trivial⟩ (by dsimp [fillL, splice, vcells, reps] <;> rfl)) rfl ?_
    rintro v L' ⟨b20, rfl, rfl⟩
    refine ymv ?_
    refine ya (ac_bsliceR rfl Tryz.underlying98 Tryz.sizeOf9 Tryz.zeroValue9 rfl rfl rfl rfl ⟨⟨_, _, rfl, (by first | rfl | simp), (by first | decide | simp)⟩, trivial⟩ (by dsimp [fillL, splice, vcells, reps] <;> rfl)) rfl ?_
    rintro v L' ⟨b22, rfl, rfl⟩
    refine y (ev_build (zs := _) rfl Tryz.underlying100 Tryz.zeroValue100 rfl (.cons Tryz.sizeOf3 (.cons Tryz.sizeOf53 (.cons Tryz.sizeOf98 .nil))) ⟨⟨_, _, rfl, (by first | rfl | simp), (by first | decide | simp)⟩, ⟨⟨_, _, rfl, (by first | rfl | simp), (by first | decide | simp)⟩, ⟨⟨_, _, rfl, (by first | rfl | simp), (by first | decide | simp)⟩, trivial⟩⟩⟩ (by dsimp [fillL, splice, vcells] <;> rfl)) rfl ?_
    refine ycall (rEncode (r := slotR gen s) ?hn256 ?ht256 ?sx256) rfl Tryz.call70 ztk rfl ?_
    case hn256 => exact rdV_in zin rfl rfl
    case ht256 => exact rdV_in zin rfl rfl
    case sx256 => intro n hn; simp [slotR] at hn; subst hn; omega
    rintro v L' ⟨s24, rfl, ok24, rfl⟩
    rw [henc] at ok24 ⊢; dsimp only at ok24 ⊢
    have hsl : slotM gen s = framed (recB (slotR gen s)) := by unfold slotM; rw [if_pos hok]
    generalize recB (slotR gen s) = rb at *
    refine ymv ?_
    refine yxt ?_
    refine yxt ?_
    refine yas ?_
    refine yas ?_
    refine ynil' (kthn (hK7 _ _ ?_))
    clear hK7
    refine cseq ?_; intro K8 hK8
    refine creg ?_
    refine ymv ?_
    refine ycall (rFramed (rb := rb) ?hb263 ?len263) rfl Tryz.call108 ztk rfl ?_
    case hb263 => exact rdY_sv zin ok24
    case len263 => omega
    rintro v L' ⟨s28, rfl, ok28, rfl⟩
    rw [← hsl] at ok28 ⊢
    refine yas ?_
    refine ynil' (kthn (hK8 _ _ ?_))
    clear hK8
    refine cret ?_
    first
      | (exfalso; omega; done)
      | (refine kretv Tryz.results92 rfl (L1 := [svSeg none 5 []] ++ R) zge ?_
         have hno : slotM gen s = [] := by
           unfold slotM; rw [if_neg (by rw [slotOk_iff]; omega)]
         rw [hno]
         exact ⟨_, ⟨none, rfl, ⟨rfl, rfl⟩, rfl⟩, rfl⟩)
      | (refine kretv Tryz.results92 rfl (L1 := [svSeg _ _ _] ++ R) zge ?_
         exact ⟨_, ⟨s28, rfl, ok28, rfl⟩, rfl⟩)
end W
end Go.Proofs
