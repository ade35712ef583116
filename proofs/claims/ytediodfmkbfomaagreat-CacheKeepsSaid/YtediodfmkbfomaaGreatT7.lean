/- A part of the proof: contracts and plain lemmas, each without conditions beyond those that it names. -/
import Derived.Test.YtediodfmkbfomaaGreatT6
set_option linter.unusedVariables false
set_option linter.unusedSimpArgs false
set_option linter.constructorNameAsVariable false
namespace Go.Proofs
open Go Go.Sl
namespace W
set_option linter.unusedVariables false
theorem src_strB [Env] {P : Program} {L : List Seg} {t : Bytes} : Src P L 1 (.string ⟨t.toArray⟩) t.length (bytesV t) := by
 have h := src_str (P := P) (L := L) (s := ⟨t.toArray⟩)
 have e : (⟨t.toArray⟩ : ByteArray).size = t.length := by show t.toArray.size = _; simp
 rw [e] at h
 simpa [bytesV] using h
theorem cEncode [Env] {R : List Seg} {r : RecM} {nv tv : Value} (hn : RdV R nv r.nums.length (intsV r.nums)) (ht : RdV R tv r.texts.length (strsV r.texts)) (hI : I64s r.nums) :
   Con Tryz.prog 77 [.agg #[i64 r.kind, nv, tv]] [] R (fun v L' => ∃ s, v = .tuple #[svVal s (encM r).1.length, i64 (encM r).2] ∧ svOk s (encM r).1.length 1 (bytesV (encM r).1) ∧ L' = [svSeg s 5 (bytesV (encM r).1)]) := by
 have hnl := hn.lenVal
 have htl := ht.lenVal
 refine con_enter Tryz.func77 Tryz.ntmps77 rfl rfl ?_
 refine cseq ?_; intro K1 hK1
 refine creg ?_
 refine ya (ac_box rfl rfl) rfl ?_
 rintro v L' ⟨b1, rfl, rfl⟩
 refine yas ?_
 refine yas ?_
 refine ynil' (kthn (hK1 _ _ ?_))
 clear hK1
 refine cseq ?_; intro K2 hK2
 refine cseq ?_; intro K3 hK3
 refine creg ?_
 refine y (ev_loadAll rfl Tryz.isAgg126 Tryz.sizeOf126 zin (by first | rfl | assumption | (simp [*]; done) | (simp [*]; omega))) rfl ?_
 refine ycall (cMay (r := r) ?hn5 ?ht5) rfl Tryz.call93 ztk rfl ?_
 case hn5 => first | exact hn.mono zge | omega
 case ht5 => first | exact ht.mono zge | omega
 rintro v L' ⟨rfl, rfl⟩
 refine y (ev_not rfl) rfl ?_
 refine ynil' (kthn (hK3 _ _ ?_))
 clear hK3
 refine ccond rfl (fun h7 => ?_) (fun h7 => ?_)
 ·(try simp only [sH] at h7)
  have henc : encM r = ([], 4) := by unfold encM; rw [if_neg (by simp_all)]
  refine cseq ?_; intro K4 hK4
  refine creg ?_
  refine yas ?_
  refine yas ?_
  refine ynil' (kthn (hK4 _ _ ?_))
  clear hK4
  refine cret (kthr ?_)
  first
    | (exfalso; omega; done)
    | (refine kretv2 Tryz.results77 rfl rfl (L1 := [svSeg none 5 []] ++ R) zge ?_
       exact ⟨_, ⟨none, by rw [henc]; rfl, by rw [henc]; exact ⟨rfl, rfl⟩, by rw [henc]; rfl⟩, rfl⟩)
    | (refine kretv2 Tryz.results77 rfl rfl (L1 := [svSeg _ _ _] ++ R) zge ?_
       exact ⟨_, ⟨st, by rw [henc], by rw [henc]; exact okt, by rw [henc]⟩, rfl⟩)
 ·(try simp only [sH] at h7)
  have hmB : r.mayB = true := by simp_all
  have hmay := may_of hmB hI
  have henc : encM r = (recB r, 0) := by unfold encM; rw [if_pos hmB]
  have hk0 := hmay.k0
  have hk1 := hmay.k1
  have hns := hmay.ns
  have hts := hmay.ts
  refine cskip' (kthn (hK2 _ _ ?_))
  clear hK2
  refine cseq ?_; intro K5 hK5
  refine cdraw 10 [(0, true), (1, true), (2, true), (3, true), (4, true), (5, true), (6, true), (7, true), (8, true), (9, false)] (_) Tryz.mixed (by kernel_rfl) .refl ?_
  refine hr rfl (ev_fieldAddr 0 rfl Tryz.underlying126 rfl Tryz.sizeOf3) rfl ?_
  refine hr rfl (ev_load rfl Tryz.isAgg3 zin rfl) rfl ?_
  refine hr rfl (ev_conv rfl Tryz.underlying3 Tryz.underlying5) rfl ?_
  rw [wu8, show r.kind % 256 = ((r.kind.toNat % 256 : Nat) : Int) by omega]
  refine hr rfl (ev_fieldAddr 1 rfl Tryz.underlying126 rfl Tryz.sizeOf56) rfl ?_
  refine hr rfl (ev_load rfl Tryz.isAgg56 zin rfl) rfl ?_
  first
    | refine hr rfl (ev_len rfl Tryz.underlying56) rfl ?_
    | refine hr rfl (ev_lenSv rfl Tryz.underlying56 (by assumption)) rfl ?_
    | refine hr rfl (ev_lenV rfl Tryz.underlying56 (RdV.lenVal (by assumption))) rfl ?_
    | refine hr rfl (ev_lenV rfl Tryz.underlying56 (RdB.lenVal (by assumption))) rfl ?_
  refine hr rfl (ev_fieldAddr 2 rfl Tryz.underlying126 rfl Tryz.sizeOf98) rfl ?_
  refine hr rfl (ev_load rfl Tryz.isAgg98 zin rfl) rfl ?_
  first
    | refine hr rfl (ev_len rfl Tryz.underlying98) rfl ?_
    | refine hr rfl (ev_lenSv rfl Tryz.underlying98 (by assumption)) rfl ?_
    | refine hr rfl (ev_lenV rfl Tryz.underlying98 (RdV.lenVal (by assumption))) rfl ?_
    | refine hr rfl (ev_lenV rfl Tryz.underlying98 (RdB.lenVal (by assumption))) rfl ?_
  refine hcall rfl (cHead ?hn19 ?ht19) rfl Tryz.call94 ztk rfl ?_
  case hn19 => omega
  case ht19 => omega
  rintro v L' ⟨rfl, rfl⟩; refine ⟨zge, ?_⟩
  refine hnil ?_
  refine ya (ac_bsliceR rfl Tryz.underlying22 Tryz.sizeOf5 Tryz.zeroValue5 rfl rfl rfl rfl ⟨⟨_, _, rfl, (by first | rfl | simp), (by first | decide | simp)⟩, ⟨⟨_, _, rfl, (by first | rfl | simp), (by first | decide | simp)⟩, trivial⟩⟩ (by dsimp [fillL, splice, vcells, reps] <;> rfl)) rfl ?_
  rintro v L' ⟨b22, rfl, rfl⟩
  refine yas ?_
  refine hnoP' (kthn (hK5 _ _ ?_))
  clear hK5
  refine cseq ?_; intro K6 hK6
  refine cseq ?_; intro K7 hK7
  refine creg ?_
  refine y (ev_fieldAddr 1 rfl Tryz.underlying126 rfl Tryz.sizeOf56) rfl ?_
  refine y (ev_load rfl Tryz.isAgg56 zin rfl) rfl ?_
  first
    | refine y (ev_len rfl Tryz.underlying56) rfl ?_
    | refine y (ev_lenSv rfl Tryz.underlying56 (by assumption)) rfl ?_
    | refine y (ev_lenV rfl Tryz.underlying56 (RdV.lenVal (by assumption))) rfl ?_
    | refine y (ev_lenV rfl Tryz.underlying56 (RdB.lenVal (by assumption))) rfl ?_
  refine ymv ?_
  refine ynil' (kthn (hK7 _ _ ?_))
  clear hK7
  have hJ1 : ∀ x : Nat × Sv, ((svOk x.2 (encA r x.1).length 1 (bytesV (encA r x.1)) ∧ x.1 ≤ r.nums.length) ∧ (x.1 = r.nums.length)) → Sk 52 K6 ([(26, i64 x.1), (25, i64 r.nums.length), (24, nv), (4, svVal x.2 (encA r x.1).length), (1, ptr b1)]) ([svSeg x.2 5 (bytesV (encA r x.1)), sc b1 [i64 r.kind, nv, tv] 126] ++ R) := by
   rintro ⟨k, s⟩ ⟨hI1, hX1⟩
   refine hK6 _ _ ?_
   obtain ⟨oks, hk⟩ := hI1; dsimp only at oks hk ⊢; have hal := encA_len hmay k
   dsimp only at hX1; subst hX1
   refine cseq ?_; intro K8 hK8
   refine cseq ?_; intro K9 hK9
   refine creg ?_
   refine y (ev_fieldAddr 2 rfl Tryz.underlying126 rfl Tryz.sizeOf98) rfl ?_
   refine y (ev_load rfl Tryz.isAgg98 zin rfl) rfl ?_
   first
     | refine y (ev_len rfl Tryz.underlying98) rfl ?_
     | refine y (ev_lenSv rfl Tryz.underlying98 (by assumption)) rfl ?_
     | refine y (ev_lenV rfl Tryz.underlying98 (RdV.lenVal (by assumption))) rfl ?_
     | refine y (ev_lenV rfl Tryz.underlying98 (RdB.lenVal (by assumption))) rfl ?_
   refine ymv ?_
   rw [← encB_zero] at oks ⊢
   refine ynil' (kthn (hK9 _ _ ?_))
   clear hK9
   have hJ2 : ∀ x : Nat × Sv, ((svOk x.2 (encB r x.1).length 1 (bytesV (encB r x.1)) ∧ x.1 ≤ r.texts.length) ∧ (x.1 = r.texts.length)) → Sk 52 K8 ([(38, i64 x.1), (37, i64 r.texts.length), (36, tv), (4, svVal x.2 (encB r x.1).length)]) ([svSeg x.2 5 (bytesV (encB r x.1))] ++ R) := by
    rintro ⟨z, st⟩ ⟨hI2, hX2⟩
    refine hK8 _ _ ?_
    obtain ⟨okt, hz⟩ := hI2; dsimp only at okt hz ⊢; have hbl := encB_len hmay z; have hbl2 := encB_len hmay (z + 1)
    dsimp only at hX2; subst hX2; rw [encB_all] at okt ⊢
    refine cseq ?_; intro K10 hK10
    refine creg ?_
    refine ymv ?_
    refine yas ?_
    refine yas ?_
    refine ynil' (kthn (hK10 _ _ ?_))
    clear hK10
    refine cret ?_
    first
      | (exfalso; omega; done)
      | (refine kretv2 Tryz.results77 rfl rfl (L1 := [svSeg none 5 []] ++ R) zge ?_
         exact ⟨_, ⟨none, by rw [henc]; rfl, by rw [henc]; exact ⟨rfl, rfl⟩, by rw [henc]; rfl⟩, rfl⟩)
      | (refine kretv2 Tryz.results77 rfl rfl (L1 := [svSeg _ _ _] ++ R) zge ?_
         exact ⟨_, ⟨st, by rw [henc], by rw [henc]; exact okt, by rw [henc]⟩, rfl⟩)
   clear hK8
   refine cblock ?_
   refine cloop (A := Nat × Sv) (fun x => [(38, i64 x.1), (37, i64 r.texts.length), (36, tv), (4, svVal x.2 (encB r x.1).length)]) (fun x => [svSeg x.2 5 (bytesV (encB r x.1))] ++ R) (fun x => svOk x.2 (encB r x.1).length 1 (bytesV (encB r x.1)) ∧ x.1 ≤ r.texts.length) (fun x => r.texts.length - x.1) ((0, s)) ?_ zsub zge ?_
   · exact ⟨oks, Nat.zero_le _⟩
   rintro ⟨z, st⟩ hI2 KL2 hL2
   have hI2o := hI2
   obtain ⟨okt, hz⟩ := hI2; dsimp only at okt hz ⊢; have hbl := encB_len hmay z; have hbl2 := encB_len hmay (z + 1)
   refine cseq ?_; intro K11 hK11
   refine creg ?_
   refine y (ev_lss rfl rfl) rfl ?_
   refine ynil' (kthn (hK11 _ _ ?_))
   clear hK11
   refine cseq ?_; intro K12 hK12
   refine ccond rfl (fun h34 => ?_) (fun h34 => ?_)
   ·(try simp only [sH] at h34)
    obtain ⟨tt, htt⟩ : ∃ x, r.texts[z]? = some x := ⟨_, List.getElem?_eq_getElem (by omega)⟩
    have h200 := hmay.len tt (List.mem_of_getElem? htt)
    have hbs := encB_succ htt
    refine cskip' (kthn (hK12 _ _ ?_))
    clear hK12
    refine cseq ?_; intro K13 hK13
    refine cblock ?_
    refine cseq ?_; intro K14 hK14
    refine creg ?_
    refine y (ev_ixV ht rfl rfl Tryz.underlying98 Tryz.sizeOf9 (by omega) (by omega)) rfl ?_
    refine y (ev_loadV z ht zge rfl Tryz.isAgg9 (by simp) (strsV_get htt)) rfl ?_
    refine yas ?_
    refine ynil' (kthn (hK14 _ _ ?_))
    clear hK14
    refine creg ?_
    refine ymv ?_
    refine ymv ?_
    refine y (ev_lenS rfl Tryz.underlying9) rfl ?_
    refine y (ev_conv rfl Tryz.underlying3 Tryz.underlying5) rfl ?_
    rw [wu8, show ((⟨tt.toArray⟩ : ByteArray).size : Int) % 256 = ((tt.length : Nat) : Int) by show ((tt.toArray.size : Nat) : Int) % 256 = _; simp; omega]
    refine ya (ac_bsliceR rfl Tryz.underlying22 Tryz.sizeOf5 Tryz.zeroValue5 rfl rfl rfl rfl ⟨⟨_, _, rfl, (by first | rfl | simp), (by first | decide | simp)⟩, trivial⟩ (by dsimp [fillL, splice, vcells, reps] <;> rfl)) rfl ?_
    rintro v L' ⟨b46, rfl, rfl⟩
    refine ya (ac_append (xs := bytesV (encB r z)) (m := (encB r z).length) (k := 1) (us := [.int .u8 ((tt.length : Nat) : Int)]) (size := 1) rfl rfl (by repeat first | exact .z | apply Pk.s) Tryz.underlying22 Tryz.underlying22 (by intro q hq; cases hq) Tryz.typeInfo5 rfl rfl rfl ?ok43 ?src43 ?one43 ?big43) rfl ?_
    case ok43 => exact okt
    case src43 => exact src_at zin rfl rfl
    case one43 => simp [Value.oneCell']
    case big43 => show (_ + _) * 2 ≤ _; omega
    rintro v L' ⟨s47, rfl, ok47, rfl⟩
    rw [bytesV_snoc _ _ (by omega)] at ok47 ⊢
    refine ymv ?_
    refine ya (ac_append (xs := bytesV (encB r z ++ [UInt8.ofNat tt.length])) (m := (encB r z).length + 1) (k := tt.length) (us := bytesV tt) (size := 1) rfl rfl (by repeat first | exact .z | apply Pk.s) Tryz.underlying22 Tryz.underlying9 (by intro q hq; cases hq) Tryz.typeInfo5 rfl rfl rfl ?ok45 ?src45 ?one45 ?big45) rfl ?_
    case ok45 => exact ok47
    case src45 => exact src_strB
    case one45 => exact bytesV_one _
    case big45 => show (_ + _) * 2 ≤ _; omega
    rintro v L' ⟨s49, rfl, ok49, rfl⟩
    rw [← bytesV_append, ← hbs, show (encB r z).length + 1 + tt.length = (encB r (z + 1)).length by rw [hbs]; simp; omega] at ok49 ⊢
    refine yas ?_
    refine ynil' (kbn (kthn (hK13 _ _ ?_)))
    clear hK13
    refine creg ?_
    refine y (ev_add rfl rfl) rfl ?_
    rw [show IntKind.i64.wrap ((z:Int) + 1) = ((z+1 : Nat) : Int) by rw [wr (by omega) (by omega)]; rfl]
    refine ymv ?_
    refine ynil' (kthn ?_)
    exact hL2 ((z + 1, s49)) (⟨ok49, by dsimp only; omega⟩) (by dsimp only; omega) _ _ zsub zge
   ·(try simp only [sH] at h34)
    refine cexit (kthx (kthx (kbx (kthn ?_))))
    exact ksub zsub zge (hJ2 ⟨z, st⟩ ⟨hI2o, by dsimp only; omega⟩)
  clear hK6
  refine cblock ?_
  refine cloop (A := Nat × Sv) (fun x => [(26, i64 x.1), (25, i64 r.nums.length), (24, nv), (4, svVal x.2 (encA r x.1).length), (1, ptr b1)]) (fun x => [svSeg x.2 5 (bytesV (encA r x.1)), sc b1 [i64 r.kind, nv, tv] 126] ++ R) (fun x => svOk x.2 (encA r x.1).length 1 (bytesV (encA r x.1)) ∧ x.1 ≤ r.nums.length) (fun x => r.nums.length - x.1) ((0, some (b22, 2, []))) ?_ zsub zge ?_
  · exact ⟨⟨by simp [encA, numsB], by decide, by simp [encA, numsB], by simp [encA, numsB]⟩, Nat.zero_le _⟩
  rintro ⟨k, s⟩ hI1 KL1 hL1
  have hI1o := hI1
  obtain ⟨oks, hk⟩ := hI1; dsimp only at oks hk ⊢; have hal := encA_len hmay k
  refine cseq ?_; intro K15 hK15
  refine creg ?_
  refine y (ev_lss rfl rfl) rfl ?_
  refine ynil' (kthn (hK15 _ _ ?_))
  clear hK15
  refine cseq ?_; intro K16 hK16
  refine ccond rfl (fun h50 => ?_) (fun h50 => ?_)
  ·(try simp only [sH] at h50)
   obtain ⟨nn, hnn⟩ : ∃ x, r.nums[k]? = some x := ⟨_, List.getElem?_eq_getElem (by omega)⟩
   obtain ⟨hlo, hhi⟩ := hI nn (List.mem_of_getElem? hnn)
   have hl10 := numB_len10 (zig_lt hlo hhi)
   refine cskip' (kthn (hK16 _ _ ?_))
   clear hK16
   refine cseq ?_; intro K17 hK17
   refine cblock ?_
   refine cseq ?_; intro K18 hK18
   refine creg ?_
   refine y (ev_ixV hn rfl rfl Tryz.underlying56 Tryz.sizeOf2 (by omega) (by omega)) rfl ?_
   refine y (ev_loadV k hn zge rfl Tryz.isAgg2 (by simp) (intsV_get hnn)) rfl ?_
   refine yas ?_
   refine ynil' (kthn (hK18 _ _ ?_))
   clear hK18
   refine creg ?_
   refine ymv ?_
   refine ymv ?_
   refine ycall (cNum ?lo56 ?hi56) rfl Tryz.call95 ztk rfl ?_
   case lo56 => exact hlo
   case hi56 => exact hhi
   rintro v L' ⟨s32, rfl, ok32, rfl⟩
   refine ya (ac_append (xs := bytesV (encA r k)) (m := (encA r k).length) (k := (numB (zig nn)).length) (us := bytesV (numB (zig nn))) (size := 1) rfl rfl (by repeat first | exact .z | apply Pk.s) Tryz.underlying22 Tryz.underlying22 (by intro q hq; cases hq) Tryz.typeInfo5 rfl rfl rfl ?ok57 ?src57 ?one57 ?big57) rfl ?_
   case ok57 => exact oks
   case src57 => exact src_sv zin ok32
   case one57 => exact bytesV_one _
   case big57 => show (_ + _) * 2 ≤ _; omega
   rintro v L' ⟨s33, rfl, ok33, rfl⟩
   rw [← bytesV_append, ← List.length_append, ← encA_succ hnn] at ok33 ⊢
   refine yas ?_
   refine ynil' (kbn (kthn (hK17 _ _ ?_)))
   clear hK17
   refine creg ?_
   refine y (ev_add rfl rfl) rfl ?_
   rw [show IntKind.i64.wrap ((k:Int) + 1) = ((k+1 : Nat) : Int) by rw [wr (by omega) (by omega)]; rfl]
   refine ymv ?_
   refine ynil' (kthn ?_)
   exact hL1 ((k + 1, s33)) (⟨ok33, by dsimp only; omega⟩) (by dsimp only; omega) _ _ zsub zge
  ·(try simp only [sH] at h50)
   refine cexit (kthx (kthx (kbx (kthn ?_))))
   exact ksub zsub zge (hJ1 ⟨k, s⟩ ⟨hI1o, by dsimp only; omega⟩)
end W
end Go.Proofs
