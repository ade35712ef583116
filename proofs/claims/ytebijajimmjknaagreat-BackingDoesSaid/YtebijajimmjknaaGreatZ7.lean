/- A part of the proof: contracts and plain lemmas, each without conditions beyond those that it names. -/
import Derived.Test.YtebijajimmjknaaGreatZ5
import Derived.Test.YtebijajimmjknaaGreatB6
import Derived.Test.YtebijajimmjknaaGreatGP
set_option linter.unusedVariables false
set_option linter.unusedSimpArgs false
set_option linter.constructorNameAsVariable false
namespace Go.Proofs
open Go Go.Sl
namespace W
set_option linter.unusedVariables false
def KNums (t : Bytes) (kd n tx : Int) : Value → List Seg → Prop := fun u L' =>
 ∃ sn nv d, u = .tuple #[nv, str d, .bool (numsOk t kd n tx)] ∧ L' = [svSeg sn 2 (intsV (decM t).1.nums)] ∧ svOk sn (decM t).1.nums.length 1 (intsV (decM t).1.nums) ∧ (numsOk t kd n tx = true → nv = svVal sn (decM t).1.nums.length ∧ (tx ≠ 0 → d = (decM t).1.texts.getD 0 []))
theorem x13nums [Env] {R : List Seg} {t : Bytes} {kd n tx : Int} (hl : t.length ≤ 1000) (hn : 0 ≤ n ∧ n ≤ 1000) (htx : tx = 0 ∨ tx = 1) :
   Con Tryz.prog 66 [str t, i64 kd, i64 n, i64 tx] [] R (KNums t kd n tx) := by
 refine con_enter Tryz.func66 Tryz.ntmps66 rfl rfl ?_
 unfold KNums
 refine cseq ?_; intro K1 hK1
 refine creg ?_
 refine yas ?_
 refine yas ?_
 refine yas ?_
 refine ynil' (kthn (hK1 _ _ ?_))
 clear hK1
 refine cseq ?_; intro K2 hK2
 refine creg ?_
 refine ymv ?_
 refine ya (ac_toBytesY rfl Tryz.underlying9 Tryz.underlying50 Tryz.underlying5) rfl ?_
 rintro v L' ⟨b16, c16, sp16, fr16, rfl, hc16, rfl⟩
 refine ycall (rDecode (bs := t) ?hb6 ?len6) rfl Tryz.call45 ztk rfl ?_
 case hb6 => exact rdY_in zin hc16
 case len6 => omega
 rintro v L' ⟨sn17, st17, rfl, ok17, rfl⟩
 have hnk : numsOk t kd n tx = ((decide ((decM t).2 = 0) && decide ((decM t).1.kind = kd) && decide (((decM t).1.nums.length : Int) = n) && decide (((decM t).1.texts.length : Int) = tx) && !(decM t).1.nums.any oddB) && (decide (tx = 0) || decide ((((decM t).1.texts.getD 0 []).length : Int) = 8))) := rfl
 generalize numsOk t kd n tx = nok at *
 generalize decM t = de at *
 obtain ⟨rc, er⟩ := de
 dsimp only at hnk ok17 ⊢
 have okn := ok17.n
 have okt := ok17.t
 unfold recV
 have hvt : RdV [svSeg st17 9 (strsV rc.texts)] (svVal st17 rc.texts.length) rc.texts.length (strsV rc.texts) := rdV_sv .z okt
 have hvn : RdV [svSeg sn17 2 (intsV rc.nums)] (svVal sn17 rc.nums.length) rc.nums.length (intsV rc.nums) := rdV_sv .z okn
 refine ymv ?_
 refine yxt ?_
 refine yxt ?_
 refine ya (ac_alloc Tryz.zeroValue100 rfl) rfl ?_
 rintro v L' ⟨b11, rfl, rfl⟩
 refine ya0 (ac_storeAll rfl rfl (by first | exact bytesV_one _ | (simp [Value.oneCell']; done) | (simp only [List.forall_mem_cons, List.not_mem_nil, false_implies, implies_true, svVal_one, and_true, true_and, and_self]; first | done | simp [Value.oneCell'])) Tryz.sizeOf100 zrp (by first | rfl | assumption | (simp [*]; done) | (simp [*]; omega)) (by first | rfl | assumption | (simp [*]; done) | (simp [*]; omega))) ?_
 rintro v L' ⟨rfl, rfl⟩
 refine yas ?_
 refine ynil' (kthn (hK2 _ _ ?_))
 clear hK2
 refine cseq ?_; intro K3 hK3
 refine cseq ?_; intro K4 hK4
 refine creg ?_
 refine ymv ?_
 refine y (ev_neq rfl rfl) rfl ?_
 refine ymv ?_
 refine ysplit 22 rfl (fun h16 => ?_) (fun h16 => ?_)
 ·(try simp only [sH] at h16)
  refine ygz ?_
  refine ygz ?_
  refine ygz ?_
  refine ygz ?_
  refine ypa ?_
  refine ymv ?_
  refine ygz ?_
  refine ygz ?_
  refine ygz ?_
  refine ygz ?_
  refine ygz ?_
  refine ypa ?_
  refine ymv ?_
  refine ygz ?_
  refine ygz ?_
  refine ygz ?_
  refine ygz ?_
  refine ygz ?_
  refine ypa ?_
  refine ynil' (kthn (hK4 _ _ ?_))
  clear hK4
  refine ccond1 rfl ?_
  refine cseq ?_; intro K5 hK5
  refine creg ?_
  have hno : nok = false := by refine Bool.eq_false_iff.2 fun hq => ?_; rw [hnk] at hq; simp only [Bool.and_eq_true, decide_eq_true_eq] at hq; omega
  refine yas ?_
  refine yas ?_
  refine yas ?_
  refine ynil' (kthn (hK5 _ _ ?_))
  clear hK5
  refine cret (kthr ?_)
  first
    | (exfalso; omega; done)
    | (refine kretv3 Tryz.results66 rfl rfl rfl (L1 := [svSeg sn17 2 (intsV rc.nums)] ++ R) zge ?_
       exact ⟨_, ⟨sn17, _, _, by rw [hno], rfl, okn, fun h => by rw [hno] at h; cases h⟩, rfl⟩)
 ·(try simp only [sH] at h16)
  refine ygo ?_
  refine y (ev_fieldAddr 0 rfl Tryz.underlying100 rfl Tryz.sizeOf3) rfl ?_
  refine ygo ?_
  refine y (ev_load rfl Tryz.isAgg3 zin rfl) rfl ?_
  refine ygo ?_
  refine ymv ?_
  refine ygo ?_
  refine y (ev_neq rfl rfl) rfl ?_
  refine ypb ?_
  refine ymv ?_
  refine ysplit 28 rfl (fun h31 => ?_) (fun h31 => ?_)
  ·(try simp only [sH] at h31)
   refine ygz ?_
   refine ygz ?_
   refine ygz ?_
   refine ygz ?_
   refine ygz ?_
   refine ypa ?_
   refine ymv ?_
   refine ygz ?_
   refine ygz ?_
   refine ygz ?_
   refine ygz ?_
   refine ygz ?_
   refine ypa ?_
   refine ynil' (kthn (hK4 _ _ ?_))
   clear hK4
   refine ccond1 rfl ?_
   refine cseq ?_; intro K6 hK6
   refine creg ?_
   have hno : nok = false := by refine Bool.eq_false_iff.2 fun hq => ?_; rw [hnk] at hq; simp only [Bool.and_eq_true, decide_eq_true_eq] at hq; omega
   refine yas ?_
   refine yas ?_
   refine yas ?_
   refine ynil' (kthn (hK6 _ _ ?_))
   clear hK6
   refine cret (kthr ?_)
   first
     | (exfalso; omega; done)
     | (refine kretv3 Tryz.results66 rfl rfl rfl (L1 := [svSeg sn17 2 (intsV rc.nums)] ++ R) zge ?_
        exact ⟨_, ⟨sn17, _, _, by rw [hno], rfl, okn, fun h => by rw [hno] at h; cases h⟩, rfl⟩)
  ·(try simp only [sH] at h31)
   refine ygo ?_
   refine y (ev_fieldAddr 1 rfl Tryz.underlying100 rfl Tryz.sizeOf53) rfl ?_
   refine ygo ?_
   refine y (ev_load rfl Tryz.isAgg53 zin rfl) rfl ?_
   refine ygo ?_
   first
     | refine y (ev_len rfl Tryz.underlying53) rfl ?_
     | refine y (ev_lenSv rfl Tryz.underlying53 (by assumption)) rfl ?_
     | refine y (ev_lenV rfl Tryz.underlying53 (RdV.lenVal (by assumption))) rfl ?_
     | refine y (ev_lenV rfl Tryz.underlying53 (RdB.lenVal (by assumption))) rfl ?_
   refine ygo ?_
   refine ymv ?_
   refine ygo ?_
   refine y (ev_neq rfl rfl) rfl ?_
   refine ypb ?_
   refine ymv ?_
   refine ysplit 35 rfl (fun h45 => ?_) (fun h45 => ?_)
   ·(try simp only [sH] at h45)
    refine ygz ?_
    refine ygz ?_
    refine ygz ?_
    refine ygz ?_
    refine ygz ?_
    refine ypa ?_
    refine ynil' (kthn (hK4 _ _ ?_))
    clear hK4
    refine ccond1 rfl ?_
    refine cseq ?_; intro K7 hK7
    refine creg ?_
    have hno : nok = false := by refine Bool.eq_false_iff.2 fun hq => ?_; rw [hnk] at hq; simp only [Bool.and_eq_true, decide_eq_true_eq] at hq; omega
    refine yas ?_
    refine yas ?_
    refine yas ?_
    refine ynil' (kthn (hK7 _ _ ?_))
    clear hK7
    refine cret (kthr ?_)
    first
      | (exfalso; omega; done)
      | (refine kretv3 Tryz.results66 rfl rfl rfl (L1 := [svSeg sn17 2 (intsV rc.nums)] ++ R) zge ?_
         exact ⟨_, ⟨sn17, _, _, by rw [hno], rfl, okn, fun h => by rw [hno] at h; cases h⟩, rfl⟩)
   ·(try simp only [sH] at h45)
    refine ygo ?_
    refine y (ev_fieldAddr 2 rfl Tryz.underlying100 rfl Tryz.sizeOf98) rfl ?_
    refine ygo ?_
    refine y (ev_load rfl Tryz.isAgg98 zin rfl) rfl ?_
    refine ygo ?_
    first
      | refine y (ev_len rfl Tryz.underlying98) rfl ?_
      | refine y (ev_lenSv rfl Tryz.underlying98 (by assumption)) rfl ?_
      | refine y (ev_lenV rfl Tryz.underlying98 (RdV.lenVal (by assumption))) rfl ?_
      | refine y (ev_lenV rfl Tryz.underlying98 (RdB.lenVal (by assumption))) rfl ?_
    refine ygo ?_
    refine ymv ?_
    refine ygo ?_
    refine y (ev_neq rfl rfl) rfl ?_
    refine ypb ?_
    refine ynil' (kthn (hK4 _ _ ?_))
    clear hK4
    refine ccond rfl (fun h56 => ?_) (fun h56 => ?_)
    ·(try simp only [sH] at h56)
     refine cseq ?_; intro K8 hK8
     refine creg ?_
     have hno : nok = false := by refine Bool.eq_false_iff.2 fun hq => ?_; rw [hnk] at hq; simp only [Bool.and_eq_true, decide_eq_true_eq] at hq; omega
     refine yas ?_
     refine yas ?_
     refine yas ?_
     refine ynil' (kthn (hK8 _ _ ?_))
     clear hK8
     refine cret (kthr ?_)
     first
       | (exfalso; omega; done)
       | (refine kretv3 Tryz.results66 rfl rfl rfl (L1 := [svSeg sn17 2 (intsV rc.nums)] ++ R) zge ?_
          exact ⟨_, ⟨sn17, _, _, by rw [hno], rfl, okn, fun h => by rw [hno] at h; cases h⟩, rfl⟩)
    ·(try simp only [sH] at h56)
     refine cskip' (kthn (hK3 _ _ ?_))
     clear hK3
     refine cseq ?_; intro K9 hK9
     refine cseq ?_; intro K10 hK10
     refine creg ?_
     have hq4 : er = 0 ∧ rc.kind = kd ∧ (rc.nums.length : Int) = n ∧ (rc.texts.length : Int) = tx := by omega
     refine yas ?_
     refine ynil' (kthn (hK10 _ _ ?_))
     clear hK10
     have hJ1 : ∀ x : Nat, (((x : Int) ≤ n ∧ (rc.nums.take x).any oddB = false) ∧ ((x : Int) = n)) → Sk 77 K9 ([(13, i64 x), (11, ptr b11), (0, str t), (1, i64 kd), (2, i64 n), (3, i64 tx)]) ([sc b11 [i64 rc.kind, svVal sn17 rc.nums.length, svVal st17 rc.texts.length] 100, svSeg sn17 2 (intsV rc.nums), svSeg st17 9 (strsV rc.texts)] ++ R) := by
      rintro k ⟨hI1, hX1⟩
      refine hK9 _ _ ?_
      obtain ⟨hk, hok⟩ := hI1
      have hkn := hX1; rw [List.take_of_length_le (by omega)] at hok; rw [hok, decide_eq_true hq4.1, decide_eq_true hq4.2.1, decide_eq_true hq4.2.2.1, decide_eq_true hq4.2.2.2] at hnk; simp only [Bool.true_and, Bool.not_false] at hnk
      refine cseq ?_; intro K11 hK11
      refine cseq ?_; intro K12 hK12
      refine creg ?_
      refine ymv ?_
      refine y (ev_eql rfl rfl) rfl ?_
      refine ynil' (kthn (hK12 _ _ ?_))
      clear hK12
      refine ccond rfl (fun h63 => ?_) (fun h63 => ?_)
      ·(try simp only [sH] at h63)
       refine cseq ?_; intro K13 hK13
       refine creg ?_
       have hyes : nok = true := by rw [hnk, decide_eq_true (by assumption)]; rfl
       refine y (ev_fieldAddr 1 rfl Tryz.underlying100 rfl Tryz.sizeOf53) rfl ?_
       refine y (ev_load rfl Tryz.isAgg53 zin rfl) rfl ?_
       refine yas ?_
       refine yas ?_
       refine yas ?_
       refine ynil' (kthn (hK13 _ _ ?_))
       clear hK13
       refine cret (kthr ?_)
       first
         | (exfalso; omega; done)
         | (refine kretv3 Tryz.results66 rfl rfl rfl (L1 := [svSeg sn17 2 (intsV rc.nums)] ++ R) zge ?_
            exact ⟨_, ⟨sn17, _, _, by rw [hyes], rfl, okn, fun _ => ⟨rfl, fun h => absurd (by assumption) h⟩⟩, rfl⟩)
      ·(try simp only [sH] at h63)
       refine cskip' (kthn (hK11 _ _ ?_))
       clear hK11
       refine cseq ?_; intro K14 hK14
       refine cdraw 14 [(0, true), (1, true), (2, true), (3, true), (4, true), (5, true), (6, true), (7, true), (8, true), (9, true), (10, true), (11, true), (12, true), (13, true)] ([sc b11 [i64 rc.kind, svVal sn17 rc.nums.length, svVal st17 rc.texts.length] 100, svSeg sn17 2 (intsV rc.nums), svSeg st17 9 (strsV rc.texts)] ++ R) Tryz.mixed (by kernel_rfl) zge ?_
       have hn8 : nok = decide (((rc.texts.getD 0 []).length : Int) = 8) := by rw [hnk, decide_eq_false (by assumption)]; rfl
       have ht1 : rc.texts.length = 1 := by omega
       refine hr rfl (ev_fieldAddr 1 rfl Tryz.underlying100 rfl Tryz.sizeOf53) rfl ?_
       refine hr rfl (ev_load rfl Tryz.isAgg53 zin rfl) rfl ?_
       refine hr rfl (ev_fieldAddr 2 rfl Tryz.underlying100 rfl Tryz.sizeOf98) rfl ?_
       refine hr rfl (ev_load rfl Tryz.isAgg98 zin rfl) rfl ?_
       refine hr rfl (ev_ixV hvt rfl rfl Tryz.underlying98 Tryz.sizeOf9 (by omega) (by omega)) rfl ?_
       refine hr rfl (ev_loadV 0 hvt zge rfl Tryz.isAgg9 rfl (strsV_get (getd_get (d := []) (by omega)))) rfl ?_
       refine hr rfl (ev_fieldAddr 2 rfl Tryz.underlying100 rfl Tryz.sizeOf98) rfl ?_
       refine hr rfl (ev_load rfl Tryz.isAgg98 zin rfl) rfl ?_
       refine hr rfl (ev_ixV hvt rfl rfl Tryz.underlying98 Tryz.sizeOf9 (by omega) (by omega)) rfl ?_
       refine hr rfl (ev_loadV 0 hvt zge rfl Tryz.isAgg9 rfl (strsV_get (getd_get (d := []) (by omega)))) rfl ?_
       first
         | refine hr rfl (ev_lenStr rfl Tryz.underlying9) rfl ?_
         | refine hr rfl (ev_lenS rfl Tryz.underlying9) rfl ?_
       refine hr rfl (ev_eql rfl rfl) rfl ?_
       refine hr rfl (ev_assign rfl) rfl ?_
       refine hr rfl (ev_assign rfl) rfl ?_
       refine hnil ?_
       refine yas ?_
       refine hnoP' (kthn (hK14 _ _ ?_))
       clear hK14
       refine cret ?_
       first
         | (exfalso; omega; done)
         | (refine kretv3 Tryz.results66 rfl rfl rfl (L1 := [svSeg sn17 2 (intsV rc.nums)] ++ R) zge ?_
            exact ⟨_, ⟨sn17, _, _, by rw [hn8], rfl, okn, fun _ => ⟨rfl, fun _ => rfl⟩⟩, rfl⟩)
     clear hK9
     refine cblock ?_
     refine cloop (A := Nat) (fun x => [(13, i64 x), (11, ptr b11), (0, str t), (1, i64 kd), (2, i64 n), (3, i64 tx)]) (fun x => [sc b11 [i64 rc.kind, svVal sn17 rc.nums.length, svVal st17 rc.texts.length] 100, svSeg sn17 2 (intsV rc.nums), svSeg st17 9 (strsV rc.texts)] ++ R) (fun x => (x : Int) ≤ n ∧ (rc.nums.take x).any oddB = false) (fun x => n.toNat - x) (0) ?_ zsub zge ?_
     · exact ⟨by omega, by simp⟩
     rintro k hI1 KL1 hL1
     have hI1o := hI1
     obtain ⟨hk, hok⟩ := hI1
     refine cseq ?_; intro K15 hK15
     refine cseq ?_; intro K16 hK16
     refine creg ?_
     refine ymv ?_
     refine ymv ?_
     refine y (ev_lss rfl rfl) rfl ?_
     refine ynil' (kthn (hK16 _ _ ?_))
     clear hK16
     refine ccond rfl (fun h87 => ?_) (fun h87 => ?_)
     ·(try simp only [sH] at h87)
      refine cskip' (kthn (hK15 _ _ ?_))
      clear hK15
      refine cseq ?_; intro K17 hK17
      refine cblock ?_
      refine cseq ?_; intro K18 hK18
      refine creg ?_
      obtain ⟨y0, hy0⟩ : ∃ y, rc.nums[k]? = some y := ⟨_, List.getElem?_eq_getElem (by omega)⟩
      refine y (ev_fieldAddr 1 rfl Tryz.underlying100 rfl Tryz.sizeOf53) rfl ?_
      refine y (ev_load rfl Tryz.isAgg53 zin rfl) rfl ?_
      refine ymv ?_
      refine y (ev_ixV hvn rfl rfl Tryz.underlying53 Tryz.sizeOf2 (by omega) (by omega)) rfl ?_
      refine y (ev_loadV k hvn zge rfl Tryz.isAgg2 (by simp) (intsV_get hy0)) rfl ?_
      refine y (ev_lss rfl rfl) rfl ?_
      refine ymv ?_
      refine ysplit 53 rfl (fun h95 => ?_) (fun h95 => ?_)
      ·(try simp only [sH] at h95)
       refine ygz ?_
       refine ygz ?_
       refine ygz ?_
       refine ygz ?_
       refine ygz ?_
       refine ygz ?_
       refine ypa ?_
       refine ynil' (kthn (hK18 _ _ ?_))
       clear hK18
       refine ccond1 rfl ?_
       refine cseq ?_; intro K19 hK19
       refine creg ?_
       have hodd : oddB y0 = true := by unfold oddB; simp only [Bool.or_eq_true, decide_eq_true_eq]; omega
       have hno : nok = false := by rw [hnk, List.any_eq_true.2 ⟨y0, List.mem_of_getElem? hy0, hodd⟩]; simp
       refine yas ?_
       refine yas ?_
       refine yas ?_
       refine ynil' (kthn (hK19 _ _ ?_))
       clear hK19
       refine cret (kbr (kthr (kthr (kbr (kthr ?_)))))
       first
         | (exfalso; omega; done)
         | (refine kretv3 Tryz.results66 rfl rfl rfl (L1 := [svSeg sn17 2 (intsV rc.nums)] ++ R) zge ?_
            exact ⟨_, ⟨sn17, _, _, by rw [hno], rfl, okn, fun h => by rw [hno] at h; cases h⟩, rfl⟩)
      ·(try simp only [sH] at h95)
       refine ygo ?_
       refine y (ev_fieldAddr 1 rfl Tryz.underlying100 rfl Tryz.sizeOf53) rfl ?_
       refine ygo ?_
       refine y (ev_load rfl Tryz.isAgg53 zin rfl) rfl ?_
       refine ygo ?_
       refine ymv ?_
       refine ygo ?_
       refine y (ev_ixV hvn rfl rfl Tryz.underlying53 Tryz.sizeOf2 (by omega) (by omega)) rfl ?_
       refine ygo ?_
       refine y (ev_loadV k hvn zge rfl Tryz.isAgg2 (by simp) (intsV_get hy0)) rfl ?_
       refine ygo ?_
       refine y (ev_gtr rfl rfl) rfl ?_
       refine ypb ?_
       refine ynil' (kthn (hK18 _ _ ?_))
       clear hK18
       refine ccond rfl (fun h107 => ?_) (fun h107 => ?_)
       ·(try simp only [sH] at h107)
        refine cseq ?_; intro K20 hK20
        refine creg ?_
        have hodd : oddB y0 = true := by unfold oddB; simp only [Bool.or_eq_true, decide_eq_true_eq]; omega
        have hno : nok = false := by rw [hnk, List.any_eq_true.2 ⟨y0, List.mem_of_getElem? hy0, hodd⟩]; simp
        refine yas ?_
        refine yas ?_
        refine yas ?_
        refine ynil' (kthn (hK20 _ _ ?_))
        clear hK20
        refine cret (kbr (kthr (kthr (kbr (kthr ?_)))))
        first
          | (exfalso; omega; done)
          | (refine kretv3 Tryz.results66 rfl rfl rfl (L1 := [svSeg sn17 2 (intsV rc.nums)] ++ R) zge ?_
             exact ⟨_, ⟨sn17, _, _, by rw [hno], rfl, okn, fun h => by rw [hno] at h; cases h⟩, rfl⟩)
       ·(try simp only [sH] at h107)
        refine cskip' (kbn (kthn (hK17 _ _ ?_)))
        clear hK17
        refine creg ?_
        have hodd : oddB y0 = false := by unfold oddB; simp only [Bool.or_eq_false_iff, decide_eq_false_iff_not]; omega
        have hno2 : (rc.nums.take (k + 1)).any oddB = false := by rw [take_snoc hy0, List.any_append, hok]; simp [hodd]
        refine ymv ?_
        refine y (ev_add rfl rfl) rfl ?_
        rw [show IntKind.i64.wrap ((k:Int) + 1) = ((k+1 : Nat) : Int) by rw [wr (by omega) (by omega)]; rfl]
        refine yas ?_
        refine ynil' (kthn ?_)
        exact hL1 (k + 1) (⟨by omega, hno2⟩) (by omega) _ _ zsub zge
     ·(try simp only [sH] at h87)
      refine cexit (kthx (kthx (kbx (kthn ?_))))
      exact ksub zsub zge (hJ1 k ⟨hI1o, by first | trivial | omega⟩)
def bkV (b n cap : Nat) : Value := .slice (some ⟨b, 0, none⟩) n cap
def rsV13 (c : Nat) (bv : Value) (S : StoM) : List Value := [ptr c, i64 S.epoch, bv] ++ intsV S.tab
def rsP (s c : Nat) (bv : Value) (S : StoM) : Seg := sc s (rsV13 c bv S) 77
def rsB (b : Nat) (sp : List Value) (ps : List Nat) (bs : List BlkM) : Seg := sc b (rowsV (zipR ps bs) ++ sp) 137
def rcelsP (ps : List Nat) (p : Nat) (cs : List CellM) : Seg := (List.zipWith (fun c C => rcelP c p C) ps cs).flatten
theorem rcels_snoc {ps : List Nat} {p : Nat} {cs : List CellM} {c : Nat} {C : CellM} (h : ps.length = cs.length) : rcelsP (ps ++ [c]) p (cs ++ [C]) = rcelsP ps p cs ++ rcelP c p C := by
 unfold rcelsP
 rw [List.zipWith_append h]
 simp
theorem rcels_split {ps : List Nat} {p : Nat} {cs : List CellM} {i c : Nat} {C : CellM} (hp : ps[i]? = some c) (hc : cs[i]? = some C) :
   ∃ A B : Seg, rcelsP ps p cs = A ++ rcelP c p C ++ B ∧ ∀ C', rcelsP ps p (cs.set i C') = A ++ rcelP c p C' ++ B := by
 induction ps generalizing cs i with
 | nil => simp at hp
 | cons z ps ih =>
   cases cs with
   | nil => simp at hc
   | cons y0 cs =>
     cases i with
     | zero =>
       simp at hp hc
       subst hp; subst hc
       exact ⟨[], rcelsP ps p cs, by simp [rcelsP], fun C' => by simp [rcelsP]⟩
     | succ i =>
       obtain ⟨A, B, h1, h2⟩ := ih (cs := cs) (i := i) (by simpa using hp) (by simpa using hc)
       refine ⟨rcelP z p y0 ++ A, B, ?_, fun C' => ?_⟩
       · have : rcelsP (z :: ps) p (y0 :: cs) = rcelP z p y0 ++ rcelsP ps p cs := by simp [rcelsP]
         rw [this, h1]; simp
       · have : rcelsP (z :: ps) p ((y0 :: cs).set (i + 1) C') = rcelP z p y0 ++ rcelsP ps p (cs.set i C') := by simp [rcelsP]
         rw [this, h2]; simp
theorem rcels_perm {A B X : Seg} {d : Seg} {R : List Seg} : ([A ++ X ++ B, d] ++ R).flatten.Perm ([X, d] ++ (A :: B :: R)).flatten := by
 simp only [List.cons_append, List.nil_append, List.flatten_cons, List.append_assoc]
 refine (List.perm_append_comm_assoc A X _).trans (List.Perm.append_left _ ?_)
 refine (List.perm_append_comm_assoc A B _).trans ?_
 refine (List.Perm.append_left B (List.perm_append_comm_assoc A d _)).trans ?_
 refine (List.perm_append_comm_assoc B d _).trans (List.Perm.append_left _ ?_)
 exact List.perm_append_comm_assoc B A _
/-- What stands about the document's store, where its cells may be written. -/
structure RBok (S : StoM) (E : RDev) (ps : List Nat) : Prop where
 wf : S.wf ps
 tok : (0 ≤ S.tok.gen ∧ S.tok.gen ≤ 4611686018427387904) ∧ (S.tok.now = -1 ∨ S.tok.now = 0 ∨ S.tok.now = 1)
 cs : ∀ C ∈ S.cs, (0 ≤ C.gen ∧ C.gen ≤ 4611686018427387904) ∧ (C.now = -1 ∨ C.now = 0 ∨ C.now = 1)
 tab : ∀ x ∈ S.tab, inM63 x
 d : E.ok
 wok : ∀ i bs, (E.write i bs).2.ok
theorem rb_ok {S : StoM} {D : Dev} {E : RDev} {ps : List Nat} (h : S.ok D ps) (hr : Rel D E) : RBok S E ps := ⟨h.wf, ⟨h.tok.gen, h.tok.now⟩, fun C hC => ⟨(h.cs C hC).gen, (h.cs C hC).now⟩, h.tab, hr.rok, fun i bs => (hr.write i bs).2.rok⟩
theorem rcPutAt [Env] {R : List Seg} {ps : List Nat} {p la : Nat} {cs : List CellM} {E : RDev} {i c : Nat} {C : CellM} {s : Bytes} (hp : ps[i]? = some c) (hc : cs[i]? = some C) (hC : (0 ≤ C.gen ∧ C.gen ≤ 4611686018427387904) ∧ (C.now = -1 ∨ C.now = 0 ∨ C.now = 1)) (hE : E.ok) (hok : ∀ i bs, (E.write i bs).2.ok) :
   Con Tryz.prog 71 [ptr c, str s] [rcelsP ps p cs, rdev p la E] R (Is (i64 (C.putR E s).1) [rcelsP ps p (cs.set i (C.putR E s).2.1), rdev p la (C.putR E s).2.2]) := by
 obtain ⟨A, B, h1, h2⟩ := rcels_split (p := p) hp hc
 rw [h1]
 refine (rcPut (R := A :: B :: R) hC.1 hC.2 hE hok).via rcels_perm ?_
 rintro v L ⟨rfl, rfl⟩
 refine ⟨_, ⟨rfl, rfl⟩, ?_⟩
 rw [h2]
 exact rcels_perm.symm
end W
end Go.Proofs
