/- A part of the proof: contracts and plain lemmas, each without conditions beyond those that it names. -/
import Derived.Test.YtebijajimmjknaaGreatT10
import Derived.Test.YtebijajimmjknaaGreatGE
set_option linter.unusedVariables false
set_option linter.unusedSimpArgs false
set_option linter.constructorNameAsVariable false
namespace Go.Proofs
open Go Go.Sl
namespace W
set_option linter.unusedVariables false
theorem rOn [Env] {R : List Seg} {s : Nat} {b : UInt8} (hs : s < 4294967296) : Con Tryz.prog 131 [.int .u32 s, .int .u8 b.toNat] [] R (Is (.int .u32 (crcOn s b)) []) := by
 have hb := b.toNat_lt
 have hx : s ^^^ b.toNat < 4294967296 := Nat.xor_lt_two_pow (n := 32) hs (by omega)
 refine con_enter Tryz.func131 Tryz.ntmps131 rfl rfl ?_
 refine cseq ?_; intro K1 hK1
 refine creg ?_
 refine yas ?_
 refine ynil' (kthn (hK1 _ _ ?_))
 clear hK1
 refine cseq ?_; intro K2 hK2
 refine creg ?_
 refine ymv ?_
 refine ymv ?_
 refine y (ev_conv rfl Tryz.underlying5 Tryz.underlying175) rfl ?_
 refine y (ev_xor rfl rfl) rfl ?_
 rw [wu32, show ((b.toNat : Nat) : Int) % 4294967296 = ((b.toNat : Nat) : Int) by omega, bXor_u rfl (show s < 2 ^ IntKind.u32.bits from hs) (show b.toNat < 2 ^ IntKind.u32.bits by show _ < 4294967296; omega)]
 refine yas ?_
 refine ynil' (kthn (hK2 _ _ ?_))
 clear hK2
 refine cseq ?_; intro K3 hK3
 refine cseq ?_; intro K4 hK4
 refine creg ?_
 refine yas ?_
 refine ynil' (kthn (hK4 _ _ ?_))
 clear hK4
 have hJ1 : ∀ x : Nat, ((x ≤ 8) ∧ (x = 8)) → Sk 24 K3 ([(5, i64 x), (0, .int .u32 (crcN x (s ^^^ b.toNat)))]) (R) := by
  rintro k ⟨hI1, hX1⟩
  refine hK3 _ _ ?_
  have hk := hI1; have hn := crcN_lt hx k
  subst hX1
  refine cseq ?_; intro K5 hK5
  refine creg ?_
  refine ymv ?_
  refine yas ?_
  refine ynil' (kthn (hK5 _ _ ?_))
  clear hK5
  refine cret ?_
  first
    | (exfalso; omega; done)
    | (refine kretv Tryz.results131 rfl (L1 := R) zge ?_
       exact ⟨_, ⟨by rfl, rfl⟩, by rfl⟩)
 clear hK3
 refine cblock ?_
 refine cloop (A := Nat) (fun x => [(5, i64 x), (0, .int .u32 (crcN x (s ^^^ b.toNat)))]) (fun x => R) (fun x => x ≤ 8) (fun x => 8 - x) (0) ?_ zsub zge ?_
 · exact Nat.zero_le _
 rintro k hI1 KL1 hL1
 have hI1o := hI1
 have hk := hI1; have hn := crcN_lt hx k
 refine cseq ?_; intro K6 hK6
 refine cseq ?_; intro K7 hK7
 refine creg ?_
 refine ymv ?_
 refine y (ev_lss rfl rfl) rfl ?_
 refine ynil' (kthn (hK7 _ _ ?_))
 clear hK7
 refine ccond rfl (fun h12 => ?_) (fun h12 => ?_)
 ·(try simp only [sH] at h12)
  refine cskip' (kthn (hK6 _ _ ?_))
  clear hK6
  refine cseq ?_; intro K8 hK8
  refine cblock ?_
  refine cseq ?_; intro K9 hK9
  refine creg ?_
  refine ymv ?_
  refine y (ev_rem rfl rfl (by decide)) rfl ?_
  rw [show (((crcN k (s ^^^ b.toNat) : Nat) : Int)).tmod 2 = ((crcN k (s ^^^ b.toNat) % 2 : Nat) : Int) from rfl]
  refine y (ev_eql rfl rfl) rfl ?_
  refine yas ?_
  refine ynil' (kthn (hK9 _ _ ?_))
  clear hK9
  refine cseq ?_; intro K10 hK10
  refine creg ?_
  refine ymv ?_
  refine y (ev_quo rfl rfl (by decide)) rfl ?_
  rw [wu32, show (((crcN k (s ^^^ b.toNat) : Nat) : Int)).tdiv 2 = ((crcN k (s ^^^ b.toNat) / 2 : Nat) : Int) from rfl, show ((crcN k (s ^^^ b.toNat) / 2 : Nat) : Int) % 4294967296 = ((crcN k (s ^^^ b.toNat) / 2 : Nat) : Int) by omega]
  have hcb := crcBit_bits hn
  rw [and1_32 hn] at hcb
  refine yas ?_
  refine ynil' (kthn (hK10 _ _ ?_))
  clear hK10
  refine cseq ?_; intro K11 hK11
  refine creg ?_
  refine ymv ?_
  refine ynil' (kthn (hK11 _ _ ?_))
  clear hK11
  refine ccond rfl (fun h21 => ?_) (fun h21 => ?_)
  ·(try simp only [sH] at h21)
   rw [if_pos h21] at hcb
   refine creg ?_
   refine ymv ?_
   refine y (ev_xor rfl rfl) rfl ?_
   rw [hcb]
   refine yas ?_
   refine ynil' (kbn (kthn (hK8 _ _ ?_)))
   clear hK8
   refine creg ?_
   refine ymv ?_
   refine y (ev_add rfl rfl) rfl ?_
   rw [show IntKind.i64.wrap ((k:Int) + 1) = ((k+1 : Nat) : Int) by rw [wr (by omega) (by omega)]; rfl]
   refine yas ?_
   refine ynil' (kthn ?_)
   exact hL1 (k + 1) ((show k + 1 ≤ 8 by omega)) (by omega) _ _ zsub zge
  ·(try simp only [sH] at h21)
   rw [if_neg h21] at hcb
   rw [hcb]
   refine cskip' (kbn (kthn (hK8 _ _ ?_)))
   clear hK8
   refine creg ?_
   refine ymv ?_
   refine y (ev_add rfl rfl) rfl ?_
   rw [show IntKind.i64.wrap ((k:Int) + 1) = ((k+1 : Nat) : Int) by rw [wr (by omega) (by omega)]; rfl]
   refine yas ?_
   refine ynil' (kthn ?_)
   exact hL1 (k + 1) ((show k + 1 ≤ 8 by omega)) (by omega) _ _ zsub zge
 ·(try simp only [sH] at h12)
  refine cexit (kthx (kthx (kbx (kthn ?_))))
  exact ksub zsub zge (hJ1 k ⟨hI1o, by first | trivial | omega⟩)
theorem rMore [Env] {R : List Seg} {s : Nat} {v : Value} {bs : Bytes} (hb : RdV R v bs.length (bytesV bs)) (hs : s < 4294967296) (hl : bs.length < 1000000) : Con Tryz.prog 117 [.int .u32 s, v] [] R (Is (.int .u32 (crcMore s bs)) []) := by
 refine con_enter Tryz.func117 Tryz.ntmps117 rfl rfl ?_
 refine cseq ?_; intro K1 hK1
 refine creg ?_
 refine yas ?_
 refine ynil' (kthn (hK1 _ _ ?_))
 clear hK1
 refine cseq ?_; intro K2 hK2
 refine creg ?_
 refine ymv ?_
 refine y (ev_sub rfl rfl) rfl ?_
 rw [wu32, show ((4294967295 : Int) - (s : Int)) % 4294967296 = ((4294967295 - s : Nat) : Int) by omega]
 refine yas ?_
 refine ynil' (kthn (hK2 _ _ ?_))
 clear hK2
 refine cseq ?_; intro K3 hK3
 refine cseq ?_; intro K4 hK4
 refine creg ?_
 refine yas ?_
 refine ynil' (kthn (hK4 _ _ ?_))
 clear hK4
 have hJ1 : ∀ x : Nat, ((x ≤ bs.length) ∧ (x = bs.length)) → Sk 23 K3 ([(6, i64 x), (1, v), (5, .int .u32 (((bs.take x).foldl crcOn (4294967295 - s) : Nat)))]) (R) := by
  rintro k ⟨hI1, hX1⟩
  refine hK3 _ _ ?_
  have hk := hI1
  subst hX1; rw [List.take_length]; have hfl := crcFold_lt (bs := bs) (s := 4294967295 - s) (by omega)
  refine cseq ?_; intro K5 hK5
  refine creg ?_
  refine ymv ?_
  refine y (ev_sub rfl rfl) rfl ?_
  rw [wu32, show ((4294967295 : Int) - ((List.foldl crcOn (4294967295 - s) bs : Nat) : Int)) % 4294967296 = ((4294967295 - List.foldl crcOn (4294967295 - s) bs : Nat) : Int) by omega]
  refine yas ?_
  refine ynil' (kthn (hK5 _ _ ?_))
  clear hK5
  refine cret ?_
  first
    | (exfalso; omega; done)
    | (refine kretv Tryz.results117 rfl (L1 := R) zge ?_
       exact ⟨_, ⟨by rfl, rfl⟩, by rfl⟩)
 clear hK3
 refine cblock ?_
 refine cloop (A := Nat) (fun x => [(6, i64 x), (1, v), (5, .int .u32 (((bs.take x).foldl crcOn (4294967295 - s) : Nat)))]) (fun x => R) (fun x => x ≤ bs.length) (fun x => bs.length - x) (0) ?_ zsub zge ?_
 · exact Nat.zero_le _
 rintro k hI1 KL1 hL1
 have hI1o := hI1
 have hk := hI1
 refine cseq ?_; intro K6 hK6
 refine cseq ?_; intro K7 hK7
 refine creg ?_
 refine ymv ?_
 refine ymv ?_
 first
   | refine y (ev_len rfl Tryz.underlying50) rfl ?_
   | refine y (ev_lenSv rfl Tryz.underlying50 (by assumption)) rfl ?_
   | refine y (ev_lenV rfl Tryz.underlying50 (RdV.lenVal (by assumption))) rfl ?_
   | refine y (ev_lenV rfl Tryz.underlying50 (RdB.lenVal (by assumption))) rfl ?_
 refine y (ev_lss rfl rfl) rfl ?_
 refine ynil' (kthn (hK7 _ _ ?_))
 clear hK7
 refine ccond rfl (fun h43 => ?_) (fun h43 => ?_)
 ·(try simp only [sH] at h43)
  refine cskip' (kthn (hK6 _ _ ?_))
  clear hK6
  refine cseq ?_; intro K8 hK8
  refine cblock ?_
  refine creg ?_
  refine ymv ?_
  refine ymv ?_
  refine ymv ?_
  refine y (ev_ixV hb rfl rfl Tryz.underlying50 Tryz.sizeOf5 (by omega) (by omega)) rfl ?_
  refine y (ev_loadV k hb zge rfl Tryz.isAgg5 (by simp) (bytesV_get (by omega))) rfl ?_
  refine ycall (rOn ?lt49) rfl Tryz.call131 ztk rfl ?_
  case lt49 => exact crcFold_lt (by omega)
  rintro v L' ⟨rfl, rfl⟩
  rw [show crcOn (List.foldl crcOn (4294967295 - s) (bs.take k)) (bs[k]?.getD 0) = List.foldl crcOn (4294967295 - s) (bs.take (k + 1)) by rw [List.take_add_one, List.foldl_append, List.getElem?_eq_getElem (by omega)]; rfl]
  refine yas ?_
  refine ynil' (kbn (kthn (hK8 _ _ ?_)))
  clear hK8
  refine creg ?_
  refine ymv ?_
  refine y (ev_add rfl rfl) rfl ?_
  rw [show IntKind.i64.wrap ((k:Int) + 1) = ((k+1 : Nat) : Int) by rw [wr (by omega) (by omega)]; rfl]
  refine yas ?_
  refine ynil' (kthn ?_)
  exact hL1 (k + 1) ((show k + 1 ≤ bs.length by omega)) (by omega) _ _ zsub zge
 ·(try simp only [sH] at h43)
  refine cexit (kthx (kthx (kbx (kthn ?_))))
  exact ksub zsub zge (hJ1 k ⟨hI1o, by first | trivial | omega⟩)
theorem rSum [Env] {R : List Seg} {v : Value} {bs : Bytes} (hb : RdV R v bs.length (bytesV bs)) (hl : bs.length < 1000000) : Con Tryz.prog 110 [v] [] R (Is (.int .u32 (sumM bs)) []) := by
 refine con_enter Tryz.func110 Tryz.ntmps110 rfl rfl ?_
 refine cseq ?_; intro K1 hK1
 refine creg ?_
 refine yas ?_
 refine ynil' (kthn (hK1 _ _ ?_))
 clear hK1
 refine cseq ?_; intro K2 hK2
 refine creg ?_
 refine ymv ?_
 refine ycall (rMore (s := 0) (bs := bs) ?bs56 ?lt56 ?len56) rfl Tryz.call117 ztk rfl ?_
 case bs56 => exact hb.mono zge
 case lt56 => decide
 case len56 => omega
 rintro v L' ⟨rfl, rfl⟩
 refine yas ?_
 refine ynil' (kthn (hK2 _ _ ?_))
 clear hK2
 refine cret ?_
 first
   | (exfalso; omega; done)
   | (refine kretv Tryz.results110 rfl (L1 := R) zge ?_
      exact ⟨_, ⟨by rfl, rfl⟩, by rfl⟩)
theorem rMay [Env] {R : List Seg} {r : RecM} {nv tv : Value} (hn : RdV R nv r.nums.length (intsV r.nums)) (ht : RdV R tv r.texts.length (strsV r.texts)) :
   Con Tryz.prog 90 [.agg #[i64 r.kind, nv, tv]] [] R (Is (.bool r.mayB) []) := by
 have hnl := hn.lenVal
 have htl := ht.lenVal
 refine con_enter Tryz.func90 Tryz.ntmps90 rfl rfl ?_
 refine cseq ?_; intro K1 hK1
 refine creg ?_
 refine ya (ac_box rfl rfl) rfl ?_
 rintro v L' ⟨b1, rfl, rfl⟩
 refine yas ?_
 refine ynil' (kthn (hK1 _ _ ?_))
 clear hK1
 refine cseq ?_; intro K2 hK2
 refine cseq ?_; intro K3 hK3
 refine creg ?_
 refine y (ev_fieldAddr 0 rfl Tryz.underlying100 rfl Tryz.sizeOf3) rfl ?_
 refine y (ev_load rfl Tryz.isAgg3 zin rfl) rfl ?_
 refine y (ev_lss rfl rfl) rfl ?_
 refine ymv ?_
 refine ysplit 7 rfl (fun h64 => ?_) (fun h64 => ?_)
 ·(try simp only [sH] at h64)
  refine ygz ?_
  refine ygz ?_
  refine ygz ?_
  refine ypa ?_
  refine ymv ?_
  refine ygz ?_
  refine ygz ?_
  refine ygz ?_
  refine ygz ?_
  refine ypa ?_
  refine ymv ?_
  refine ygz ?_
  refine ygz ?_
  refine ygz ?_
  refine ygz ?_
  refine ypa ?_
  refine ynil' (kthn (hK3 _ _ ?_))
  clear hK3
  refine ccond1 rfl ?_
  refine cseq ?_; intro K4 hK4
  refine creg ?_
  have hmay : r.mayB = false := by unfold RecM.mayB; simp; intros; exfalso; omega
  refine yas ?_
  refine ynil' (kthn (hK4 _ _ ?_))
  clear hK4
  refine cret (kthr ?_)
  first
    | (exfalso; omega; done)
    | (refine kretv Tryz.results90 rfl (L1 := R) zge ?_
       exact ⟨_, ⟨by first | rfl | rw [hmay], rfl⟩, by first | rfl | rw [hmay]⟩)
 ·(try simp only [sH] at h64)
  refine ygo ?_
  refine y (ev_fieldAddr 0 rfl Tryz.underlying100 rfl Tryz.sizeOf3) rfl ?_
  refine ygo ?_
  refine y (ev_load rfl Tryz.isAgg3 zin rfl) rfl ?_
  refine ygo ?_
  refine y (ev_gtr rfl rfl) rfl ?_
  refine ypb ?_
  refine ymv ?_
  refine ysplit 12 rfl (fun h76 => ?_) (fun h76 => ?_)
  ·(try simp only [sH] at h76)
   refine ygz ?_
   refine ygz ?_
   refine ygz ?_
   refine ygz ?_
   refine ypa ?_
   refine ymv ?_
   refine ygz ?_
   refine ygz ?_
   refine ygz ?_
   refine ygz ?_
   refine ypa ?_
   refine ynil' (kthn (hK3 _ _ ?_))
   clear hK3
   refine ccond1 rfl ?_
   refine cseq ?_; intro K5 hK5
   refine creg ?_
   have hmay : r.mayB = false := by unfold RecM.mayB; simp; intros; exfalso; omega
   refine yas ?_
   refine ynil' (kthn (hK5 _ _ ?_))
   clear hK5
   refine cret (kthr ?_)
   first
     | (exfalso; omega; done)
     | (refine kretv Tryz.results90 rfl (L1 := R) zge ?_
        exact ⟨_, ⟨by first | rfl | rw [hmay], rfl⟩, by first | rfl | rw [hmay]⟩)
  ·(try simp only [sH] at h76)
   refine ygo ?_
   refine y (ev_fieldAddr 1 rfl Tryz.underlying100 rfl Tryz.sizeOf53) rfl ?_
   refine ygo ?_
   refine y (ev_load rfl Tryz.isAgg53 zin rfl) rfl ?_
   refine ygo ?_
   first
     | refine y (ev_len rfl Tryz.underlying53) rfl ?_
     | refine y (ev_lenSv rfl Tryz.underlying53 (by assumption)) rfl ?_
     | refine y (ev_lenV rfl Tryz.underlying53 (RdV.lenVal (by assumption))) rfl ?_
     | refine y (ev_lenV rfl Tryz.underlying53 (RdB.lenVal (by assumption))) rfl ?_
   refine ygo ?_
   refine y (ev_gtr rfl rfl) rfl ?_
   refine ypb ?_
   refine ymv ?_
   refine ysplit 18 rfl (fun h87 => ?_) (fun h87 => ?_)
   ·(try simp only [sH] at h87)
    refine ygz ?_
    refine ygz ?_
    refine ygz ?_
    refine ygz ?_
    refine ypa ?_
    refine ynil' (kthn (hK3 _ _ ?_))
    clear hK3
    refine ccond1 rfl ?_
    refine cseq ?_; intro K6 hK6
    refine creg ?_
    have hmay : r.mayB = false := by unfold RecM.mayB; simp; intros; exfalso; omega
    refine yas ?_
    refine ynil' (kthn (hK6 _ _ ?_))
    clear hK6
    refine cret (kthr ?_)
    first
      | (exfalso; omega; done)
      | (refine kretv Tryz.results90 rfl (L1 := R) zge ?_
         exact ⟨_, ⟨by first | rfl | rw [hmay], rfl⟩, by first | rfl | rw [hmay]⟩)
   ·(try simp only [sH] at h87)
    refine ygo ?_
    refine y (ev_fieldAddr 2 rfl Tryz.underlying100 rfl Tryz.sizeOf98) rfl ?_
    refine ygo ?_
    refine y (ev_load rfl Tryz.isAgg98 zin rfl) rfl ?_
    refine ygo ?_
    first
      | refine y (ev_len rfl Tryz.underlying98) rfl ?_
      | refine y (ev_lenSv rfl Tryz.underlying98 (by assumption)) rfl ?_
      | refine y (ev_lenV rfl Tryz.underlying98 (RdV.lenVal (by assumption))) rfl ?_
      | refine y (ev_lenV rfl Tryz.underlying98 (RdB.lenVal (by assumption))) rfl ?_
    refine ygo ?_
    refine y (ev_gtr rfl rfl) rfl ?_
    refine ypb ?_
    refine ynil' (kthn (hK3 _ _ ?_))
    clear hK3
    refine ccond rfl (fun h95 => ?_) (fun h95 => ?_)
    ·(try simp only [sH] at h95)
     refine cseq ?_; intro K7 hK7
     refine creg ?_
     have hmay : r.mayB = false := by unfold RecM.mayB; simp; intros; exfalso; omega
     refine yas ?_
     refine ynil' (kthn (hK7 _ _ ?_))
     clear hK7
     refine cret (kthr ?_)
     first
       | (exfalso; omega; done)
       | (refine kretv Tryz.results90 rfl (L1 := R) zge ?_
          exact ⟨_, ⟨by first | rfl | rw [hmay], rfl⟩, by first | rfl | rw [hmay]⟩)
    ·(try simp only [sH] at h95)
     refine cskip' (kthn (hK2 _ _ ?_))
     clear hK2
     refine cseq ?_; intro K8 hK8
     refine cseq ?_; intro K9 hK9
     refine creg ?_
     refine yas ?_
     refine ynil' (kthn (hK9 _ _ ?_))
     clear hK9
     have hJ1 : ∀ x : Nat, ((x ≤ r.texts.length ∧ (r.texts.take x).any (fun t => decide (200 < (t.length : Int))) = false) ∧ (x = r.texts.length)) → Sk 38 K8 ([(3, i64 x), (1, ptr b1)]) ([sc b1 [i64 r.kind, nv, tv] 100] ++ R) := by
      rintro k ⟨hI1, hX1⟩
      refine hK8 _ _ ?_
      obtain ⟨hk, hno⟩ := hI1
      subst hX1; rw [List.take_length] at hno; have hmay : r.mayB = true := by unfold RecM.mayB; rw [hno]; simp; omega
      refine cseq ?_; intro K10 hK10
      refine creg ?_
      refine yas ?_
      refine ynil' (kthn (hK10 _ _ ?_))
      clear hK10
      refine cret ?_
      first
        | (exfalso; omega; done)
        | (refine kretv Tryz.results90 rfl (L1 := R) zge ?_
           exact ⟨_, ⟨by first | rfl | rw [hmay], rfl⟩, by first | rfl | rw [hmay]⟩)
     clear hK8
     refine cblock ?_
     refine cloop (A := Nat) (fun x => [(3, i64 x), (1, ptr b1)]) (fun x => [sc b1 [i64 r.kind, nv, tv] 100] ++ R) (fun x => x ≤ r.texts.length ∧ (r.texts.take x).any (fun t => decide (200 < (t.length : Int))) = false) (fun x => r.texts.length - x) (0) ?_ zsub zge ?_
     · exact ⟨Nat.zero_le _, by simp⟩
     rintro k hI1 KL1 hL1
     have hI1o := hI1
     obtain ⟨hk, hno⟩ := hI1
     refine cseq ?_; intro K11 hK11
     refine cseq ?_; intro K12 hK12
     refine creg ?_
     refine ymv ?_
     refine y (ev_fieldAddr 2 rfl Tryz.underlying100 rfl Tryz.sizeOf98) rfl ?_
     refine y (ev_load rfl Tryz.isAgg98 zin rfl) rfl ?_
     first
       | refine y (ev_len rfl Tryz.underlying98) rfl ?_
       | refine y (ev_lenSv rfl Tryz.underlying98 (by assumption)) rfl ?_
       | refine y (ev_lenV rfl Tryz.underlying98 (RdV.lenVal (by assumption))) rfl ?_
       | refine y (ev_lenV rfl Tryz.underlying98 (RdB.lenVal (by assumption))) rfl ?_
     refine y (ev_lss rfl rfl) rfl ?_
     refine ynil' (kthn (hK12 _ _ ?_))
     clear hK12
     refine ccond rfl (fun h104 => ?_) (fun h104 => ?_)
     ·(try simp only [sH] at h104)
      obtain ⟨t, htt⟩ : ∃ t, r.texts[k]? = some t := ⟨_, List.getElem?_eq_getElem (by omega)⟩
      refine cskip' (kthn (hK11 _ _ ?_))
      clear hK11
      refine cseq ?_; intro K13 hK13
      refine cblock ?_
      refine cseq ?_; intro K14 hK14
      refine creg ?_
      refine y (ev_fieldAddr 2 rfl Tryz.underlying100 rfl Tryz.sizeOf98) rfl ?_
      refine y (ev_load rfl Tryz.isAgg98 zin rfl) rfl ?_
      refine ymv ?_
      refine y (ev_ixV ht rfl rfl Tryz.underlying98 Tryz.sizeOf9 (by omega) (by omega)) rfl ?_
      refine y (ev_loadV k ht zge rfl Tryz.isAgg9 (by simp) (strsV_get htt)) rfl ?_
      first
        | refine y (ev_lenStr rfl Tryz.underlying9) rfl ?_
        | refine y (ev_lenS rfl Tryz.underlying9) rfl ?_
      refine y (ev_gtr rfl rfl) rfl ?_
      refine ynil' (kthn (hK14 _ _ ?_))
      clear hK14
      refine ccond rfl (fun h112 => ?_) (fun h112 => ?_)
      ·(try simp only [sH] at h112)
       have hmay : r.mayB = false := by
         have : r.texts.any (fun t => decide (200 < (t.length : Int))) = true := List.any_eq_true.2 ⟨t, List.mem_of_getElem? htt, by simpa using h112⟩
         unfold RecM.mayB; rw [this]; simp
       refine cseq ?_; intro K15 hK15
       refine creg ?_
       refine yas ?_
       refine ynil' (kthn (hK15 _ _ ?_))
       clear hK15
       refine cret (kbr (kthr (kthr (kbr (kthr ?_)))))
       first
         | (exfalso; omega; done)
         | (refine kretv Tryz.results90 rfl (L1 := R) zge ?_
            exact ⟨_, ⟨by first | rfl | rw [hmay], rfl⟩, by first | rfl | rw [hmay]⟩)
      ·(try simp only [sH] at h112)
       have hno2 : (r.texts.take (k + 1)).any (fun t => decide (200 < (t.length : Int))) = false := by rw [take_snoc htt, List.any_append, hno]; simp; omega
       refine cskip' (kbn (kthn (hK13 _ _ ?_)))
       clear hK13
       refine creg ?_
       refine ymv ?_
       refine y (ev_add rfl rfl) rfl ?_
       rw [show IntKind.i64.wrap ((k:Int) + 1) = ((k+1 : Nat) : Int) by rw [wr (by omega) (by omega)]; rfl]
       refine yas ?_
       refine ynil' (kthn ?_)
       exact hL1 (k + 1) (⟨by omega, hno2⟩) (by omega) _ _ zsub zge
     ·(try simp only [sH] at h104)
      refine cexit (kthx (kthx (kbx (kthn ?_))))
      exact ksub zsub zge (hJ1 k ⟨hI1o, by first | trivial | omega⟩)
end W
end Go.Proofs
