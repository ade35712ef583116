/- A part of the proof: contracts and plain lemmas, each without conditions beyond those that it names. -/
import Derived.Test.YtediodfmkbfomaaGreatT7
import Derived.Test.YtediodfmkbfomaaGreatGG
set_option linter.unusedVariables false
set_option linter.unusedSimpArgs false
set_option linter.constructorNameAsVariable false
namespace Go.Proofs
open Go Go.Sl
namespace W
set_option linter.unusedVariables false
abbrev str (t : Bytes) : Value := .string ⟨t.toArray⟩
theorem cSlot [Env] {R : List Seg} {gen : Int} {s : Bytes} (h1 : -9223372036854775808 ≤ gen) (h2 : gen ≤ 9223372036854775807) :
   Con Tryz.prog 100 [i64 gen, str s] [] R (KSv 5 (slotM gen s).length 1 (bytesV (slotM gen s)) []) := by
 refine con_enter Tryz.func100 Tryz.ntmps100 rfl rfl ?_
 refine cseq ?_; intro K1 hK1
 refine creg ?_
 refine yas ?_
 refine ynil' (kthn (hK1 _ _ ?_))
 clear hK1
 refine cseq ?_; intro K2 hK2
 refine cseq ?_; intro K3 hK3
 refine creg ?_
 refine ymv ?_
 refine y (ev_lss rfl rfl) rfl ?_
 refine ymv ?_
 refine ysplit 10 rfl (fun h5 => ?_) (fun h5 => ?_)
 ·(try simp only [sH] at h5)
  refine ygz ?_
  refine ygz ?_
  refine ypa ?_
  refine ymv ?_
  refine ygz ?_
  refine ygz ?_
  refine ygz ?_
  refine ypa ?_
  refine ynil' (kthn (hK3 _ _ ?_))
  clear hK3
  refine ccond1 rfl ?_
  refine cseq ?_; intro K4 hK4
  refine creg ?_
  refine yas ?_
  refine ynil' (kthn (hK4 _ _ ?_))
  clear hK4
  refine cret (kthr ?_)
  first
    | (exfalso; omega; done)
    | (refine kretv Tryz.results100 rfl (L1 := [svSeg none 5 []] ++ R) zge ?_
       have hno : slotM gen s = [] := by
         unfold slotM; rw [if_neg (by rw [slotOk_iff]; omega)]
       rw [hno]
       exact ⟨_, ⟨none, rfl, ⟨rfl, rfl⟩, rfl⟩, rfl⟩)
    | (refine kretv Tryz.results100 rfl (L1 := [svSeg _ _ _] ++ R) zge ?_
       exact ⟨_, ⟨s49, rfl, ok49, rfl⟩, rfl⟩)
 ·(try simp only [sH] at h5)
  refine ygo ?_
  refine ymv ?_
  refine ygo ?_
  refine y (ev_gtr rfl rfl) rfl ?_
  refine ypb ?_
  refine ymv ?_
  refine ysplit 14 rfl (fun h14 => ?_) (fun h14 => ?_)
  ·(try simp only [sH] at h14)
   refine ygz ?_
   refine ygz ?_
   refine ygz ?_
   refine ypa ?_
   refine ynil' (kthn (hK3 _ _ ?_))
   clear hK3
   refine ccond1 rfl ?_
   refine cseq ?_; intro K5 hK5
   refine creg ?_
   refine yas ?_
   refine ynil' (kthn (hK5 _ _ ?_))
   clear hK5
   refine cret (kthr ?_)
   first
     | (exfalso; omega; done)
     | (refine kretv Tryz.results100 rfl (L1 := [svSeg none 5 []] ++ R) zge ?_
        have hno : slotM gen s = [] := by
          unfold slotM; rw [if_neg (by rw [slotOk_iff]; omega)]
        rw [hno]
        exact ⟨_, ⟨none, rfl, ⟨rfl, rfl⟩, rfl⟩, rfl⟩)
     | (refine kretv Tryz.results100 rfl (L1 := [svSeg _ _ _] ++ R) zge ?_
        exact ⟨_, ⟨s49, rfl, ok49, rfl⟩, rfl⟩)
  ·(try simp only [sH] at h14)
   refine ygo ?_
   refine ymv ?_
   refine ygo ?_
   first
     | refine y (ev_lenStr rfl Tryz.underlying9) rfl ?_
     | refine y (ev_lenS rfl Tryz.underlying9) rfl ?_
   refine ygo ?_
   refine y (ev_gtr rfl rfl) rfl ?_
   refine ypb ?_
   refine ynil' (kthn (hK3 _ _ ?_))
   clear hK3
   refine ccond rfl (fun h21 => ?_) (fun h21 => ?_)
   ·(try simp only [sH] at h21)
    refine cseq ?_; intro K6 hK6
    refine creg ?_
    refine yas ?_
    refine ynil' (kthn (hK6 _ _ ?_))
    clear hK6
    refine cret (kthr ?_)
    first
      | (exfalso; omega; done)
      | (refine kretv Tryz.results100 rfl (L1 := [svSeg none 5 []] ++ R) zge ?_
         have hno : slotM gen s = [] := by
           unfold slotM; rw [if_neg (by rw [slotOk_iff]; omega)]
         rw [hno]
         exact ⟨_, ⟨none, rfl, ⟨rfl, rfl⟩, rfl⟩, rfl⟩)
      | (refine kretv Tryz.results100 rfl (L1 := [svSeg _ _ _] ++ R) zge ?_
         exact ⟨_, ⟨s49, rfl, ok49, rfl⟩, rfl⟩)
   ·(try simp only [sH] at h21)
    refine cskip' (kthn (hK2 _ _ ?_))
    clear hK2
    refine cseq ?_; intro K7 hK7
    refine creg ?_
    have hok : slotOk gen s = true := by rw [slotOk_iff]; omega
    have hmay := slot_may hok
    have henc : encM (slotR gen s) = (recB (slotR gen s), 0) := by unfold encM; rw [if_pos (mayB_of hmay)]
    obtain ⟨hlen, hlen2⟩ := slotB_len hok
    refine ymv ?_
    refine ya (ac_bsliceR rfl Tryz.underlying56 Tryz.sizeOf2 Tryz.zeroValue2 rfl rfl rfl rfl ⟨⟨_, _, rfl, (by first | rfl | simp), (by first | decide | simp)⟩, trivial⟩ (by dsimp [fillL, splice, vcells, reps] <;> rfl)) rfl ?_
    rintro v L' ⟨b21, rfl, rfl⟩
    refine ymv ?_
    refine ya (ac_bsliceR rfl Tryz.underlying98 Tryz.sizeOf9 Tryz.zeroValue9 rfl rfl rfl rfl ⟨⟨_, _, rfl, (by first | rfl | simp), (by first | decide | simp)⟩, trivial⟩ (by dsimp [fillL, splice, vcells, reps] <;> rfl)) rfl ?_
    rintro v L' ⟨b23, rfl, rfl⟩
    refine y (ev_build (zs := _) rfl Tryz.underlying126 Tryz.zeroValue126 rfl (.cons Tryz.sizeOf3 (.cons Tryz.sizeOf56 (.cons Tryz.sizeOf98 .nil))) ⟨⟨_, _, rfl, (by first | rfl | simp), (by first | decide | simp)⟩, ⟨⟨_, _, rfl, (by first | rfl | simp), (by first | decide | simp)⟩, ⟨⟨_, _, rfl, (by first | rfl | simp), (by first | decide | simp)⟩, trivial⟩⟩⟩ (by dsimp [fillL, splice, vcells] <;> rfl)) rfl ?_
    refine ycall (cEncode (r := slotR gen s) ?hn28 ?ht28 ?sx28) rfl Tryz.call77 ztk rfl ?_
    case hn28 => exact rdV_in zin rfl rfl
    case ht28 => exact rdV_in zin rfl rfl
    case sx28 => intro n hn; simp [slotR] at hn; subst hn; omega
    rintro v L' ⟨s25, rfl, ok25, rfl⟩
    rw [henc] at ok25 ⊢; dsimp only at ok25 ⊢
    have hsl : slotM gen s = framed (recB (slotR gen s)) := by unfold slotM; rw [if_pos hok]
    generalize recB (slotR gen s) = rb at *
    refine ymv ?_
    refine yxt ?_
    refine yxt ?_
    refine yas ?_
    refine yas ?_
    refine ynil' (kthn (hK7 _ _ ?_))
    clear hK7
    refine cseq ?_; intro K8 hK8
    refine creg ?_
    refine ymv ?_
    first
      | refine y (ev_len rfl Tryz.underlying22) rfl ?_
      | refine y (ev_lenSv rfl Tryz.underlying22 (by assumption)) rfl ?_
      | refine y (ev_lenV rfl Tryz.underlying22 (RdV.lenVal (by assumption))) rfl ?_
      | refine y (ev_lenV rfl Tryz.underlying22 (RdB.lenVal (by assumption))) rfl ?_
    refine y (ev_conv rfl Tryz.underlying3 Tryz.underlying5) rfl ?_
    rw [wu8, show ((rb.length : Nat) : Int) % 256 = ((rb.length : Nat) : Int) by omega]
    refine ya (ac_bsliceR rfl Tryz.underlying22 Tryz.sizeOf5 Tryz.zeroValue5 rfl rfl rfl rfl ⟨⟨_, _, rfl, (by first | rfl | simp), (by first | decide | simp)⟩, trivial⟩ (by dsimp [fillL, splice, vcells, reps] <;> rfl)) rfl ?_
    rintro v L' ⟨b31, rfl, rfl⟩
    refine ymv ?_
    refine ya (ac_append (s := some (b31, 1, [])) (xs := [.int .u8 ((rb.length : Nat) : Int)]) (m := 1) (k := rb.length) (us := bytesV rb) (size := 1) rfl rfl (by repeat first | exact .z | apply Pk.s) Tryz.underlying22 Tryz.underlying22 (by intro q hq; cases hq) Tryz.typeInfo5 rfl rfl rfl ?ok39 ?src39 ?one39 ?big39) rfl ?_
    case ok39 => exact ⟨Nat.le_refl _, by decide, rfl, rfl⟩
    case src39 => exact src_sv zin ok25
    case one39 => exact bytesV_one _
    case big39 => show (_ + _) * 2 ≤ _; omega
    rintro v L' ⟨s33, rfl, ok33, rfl⟩
    have hbl : 1 + rb.length = (UInt8.ofNat rb.length :: rb).length := by simp; omega
    rw [show [Value.int .u8 ((rb.length : Nat) : Int)] ++ bytesV rb = bytesV (UInt8.ofNat rb.length :: rb) by simp [bytesV]; omega, hbl] at ok33 ⊢
    have hbl2 : (UInt8.ofNat rb.length :: rb).length ≤ 114 := by simp; omega
    have hfr : framed rb = be4 (sumM (UInt8.ofNat rb.length :: rb)) ++ (UInt8.ofNat rb.length :: rb) := rfl
    generalize UInt8.ofNat rb.length :: rb = rc at *
    refine yas ?_
    refine ynil' (kthn (hK8 _ _ ?_))
    clear hK8
    refine cseq ?_; intro K9 hK9
    refine creg ?_
    refine ymv ?_
    refine ycall (cSum (bs := rc) ?bs42 ?len42) rfl Tryz.call92 ztk rfl ?_
    case bs42 => exact rdV_sv zin ok33
    case len42 => omega
    rintro v L' ⟨rfl, rfl⟩
    have hsu := sumM_lt rc
    generalize sumM rc = su at *
    refine yas ?_
    refine ynil' (kthn (hK9 _ _ ?_))
    clear hK9
    refine cseq ?_; intro K10 hK10
    refine creg ?_
    refine ymv ?_
    refine y (ev_shr rfl rfl (by first | decide | omega)) rfl ?_
    rw [show ((su : Nat) : Int).fdiv (2 ^ (min (24 : Int).toNat IntKind.u32.bits)) = ((su / 16777216 : Nat) : Int) from fdiv2 (k := 16777216)]
    refine y (ev_conv rfl Tryz.underlying163 Tryz.underlying5) rfl ?_
    rw [wu8, show ((su / 16777216 : Nat) : Int) % 256 = ((su / 16777216 % 256 : Nat) : Int) by omega]
    refine ymv ?_
    refine y (ev_shr rfl rfl (by first | decide | omega)) rfl ?_
    rw [show ((su : Nat) : Int).fdiv (2 ^ (min (16 : Int).toNat IntKind.u32.bits)) = ((su / 65536 : Nat) : Int) from fdiv2 (k := 65536)]
    refine y (ev_conv rfl Tryz.underlying163 Tryz.underlying5) rfl ?_
    rw [wu8, show ((su / 65536 : Nat) : Int) % 256 = ((su / 65536 % 256 : Nat) : Int) by omega]
    refine ymv ?_
    refine y (ev_shr rfl rfl (by first | decide | omega)) rfl ?_
    rw [show ((su : Nat) : Int).fdiv (2 ^ (min (8 : Int).toNat IntKind.u32.bits)) = ((su / 256 : Nat) : Int) from fdiv2 (k := 256)]
    refine y (ev_conv rfl Tryz.underlying163 Tryz.underlying5) rfl ?_
    rw [wu8, show ((su / 256 : Nat) : Int) % 256 = ((su / 256 % 256 : Nat) : Int) by omega]
    refine ymv ?_
    refine y (ev_conv rfl Tryz.underlying163 Tryz.underlying5) rfl ?_
    rw [wu8, show ((su : Nat) : Int) % 256 = ((su % 256 : Nat) : Int) by omega]
    refine ya (ac_bsliceR rfl Tryz.underlying22 Tryz.sizeOf5 Tryz.zeroValue5 rfl rfl rfl rfl ⟨⟨_, _, rfl, (by first | rfl | simp), (by first | decide | simp)⟩, ⟨⟨_, _, rfl, (by first | rfl | simp), (by first | decide | simp)⟩, ⟨⟨_, _, rfl, (by first | rfl | simp), (by first | decide | simp)⟩, ⟨⟨_, _, rfl, (by first | rfl | simp), (by first | decide | simp)⟩, trivial⟩⟩⟩⟩ (by dsimp [fillL, splice, vcells, reps] <;> rfl)) rfl ?_
    rintro v L' ⟨b47, rfl, rfl⟩
    refine ymv ?_
    refine ya (ac_append (s := some (b47, 4, [])) (xs := be4V su) (m := 4) (k := rc.length) (us := bytesV rc) (size := 1) rfl rfl (by repeat first | exact .z | apply Pk.s) Tryz.underlying22 Tryz.underlying22 (by intro q hq; cases hq) Tryz.typeInfo5 rfl rfl rfl ?ok57 ?src57 ?one57 ?big57) rfl ?_
    case ok57 => exact ⟨Nat.le_refl _, by decide, rfl, rfl⟩
    case src57 => exact src_sv zin ok33
    case one57 => exact bytesV_one _
    case big57 => show (_ + _) * 2 ≤ _; omega
    rintro v L' ⟨s49, rfl, ok49, rfl⟩
    rw [be4V_eq, ← bytesV_append, show 4 + rc.length = (be4 su ++ rc).length by simp [be4]; omega, ← hfr, ← hsl] at ok49 ⊢
    refine yas ?_
    refine ynil' (kthn (hK10 _ _ ?_))
    clear hK10
    refine cret ?_
    first
      | (exfalso; omega; done)
      | (refine kretv Tryz.results100 rfl (L1 := [svSeg none 5 []] ++ R) zge ?_
         have hno : slotM gen s = [] := by
           unfold slotM; rw [if_neg (by rw [slotOk_iff]; omega)]
         rw [hno]
         exact ⟨_, ⟨none, rfl, ⟨rfl, rfl⟩, rfl⟩, rfl⟩)
      | (refine kretv Tryz.results100 rfl (L1 := [svSeg _ _ _] ++ R) zge ?_
         exact ⟨_, ⟨s49, rfl, ok49, rfl⟩, rfl⟩)
end W
end Go.Proofs
