/- A part of the proof: contracts and plain lemmas, each without conditions beyond those that it names. -/
import Derived.Test.YtebijajimmjknaaGreatW1
import Derived.Test.YtebijajimmjknaaGreatGJ
import Derived.Test.YtebijajimmjknaaGreatGC
set_option linter.unusedVariables false
set_option linter.unusedSimpArgs false
set_option linter.constructorNameAsVariable false
namespace Go.Proofs
open Go Go.Sl
namespace W
set_option linter.unusedVariables false
theorem bOdd [Env] {R : List Seg} {n : Int} : Con Tryz.prog 87 [i64 n] [] R (Is (.bool (oddB n)) []) := by
 refine con_enter Tryz.func87 Tryz.ntmps87 rfl rfl ?_
 refine cseq ?_; intro K1 hK1
 refine creg ?_
 refine yas ?_
 refine ynil' (kthn (hK1 _ _ ?_))
 clear hK1
 refine cseq ?_; intro K2 hK2
 refine creg ?_
 refine ymv ?_
 refine y (ev_lss rfl rfl) rfl ?_
 refine ymv ?_
 refine ysplit 5 rfl (fun h5 => ?_) (fun h5 => ?_)
 ·(try simp only [sH] at h5)
  refine ygz ?_
  refine ygz ?_
  refine ypa ?_
  refine yas ?_
  refine ynil' (kthn (hK2 _ _ ?_))
  clear hK2
  refine cret ?_
  first
    | (exfalso; omega; done)
    | (refine kretv Tryz.results87 rfl (L1 := R) zge ?_
       exact ⟨_, ⟨by first | rfl | (unfold oddB; rw [decide_eq_false (show ¬ n < 0 by omega)]; rfl) | (unfold oddB; rw [decide_eq_true (show n < 0 by omega)]; rfl), rfl⟩, by first | rfl | (unfold oddB; rw [decide_eq_false (show ¬ n < 0 by omega)]; rfl) | (unfold oddB; rw [decide_eq_true (show n < 0 by omega)]; rfl)⟩)
 ·(try simp only [sH] at h5)
  refine ygo ?_
  refine ymv ?_
  refine ygo ?_
  refine y (ev_gtr rfl rfl) rfl ?_
  refine ypb ?_
  refine yas ?_
  refine ynil' (kthn (hK2 _ _ ?_))
  clear hK2
  refine cret ?_
  first
    | (exfalso; omega; done)
    | (refine kretv Tryz.results87 rfl (L1 := R) zge ?_
       exact ⟨_, ⟨by first | rfl | (unfold oddB; rw [decide_eq_false (show ¬ n < 0 by omega)]; rfl) | (unfold oddB; rw [decide_eq_true (show n < 0 by omega)]; rfl), rfl⟩, by first | rfl | (unfold oddB; rw [decide_eq_false (show ¬ n < 0 by omega)]; rfl) | (unfold oddB; rw [decide_eq_true (show n < 0 by omega)]; rfl)⟩)
abbrev oddF : Value := .func (.func 87) #[] #[]
theorem bIndex [Env] {R : List Seg} {v : Value} {l : List Int} (hv : RdV R v l.length (intsV l)) (hll : l.length ≤ 1000) : Con Tryz.prog 102 [v, oddF] [] R (fun u L' => ∃ r : Int, u = i64 r ∧ (0 ≤ r ↔ l.any oddB = true) ∧ L' = []) := by
 have hvl := hv.lenVal
 refine con_enter Tryz.func102 Tryz.ntmps102 rfl rfl ?_
 refine cseq ?_; intro K1 hK1
 refine creg ?_
 refine yas ?_
 refine ynil' (kthn (hK1 _ _ ?_))
 clear hK1
 refine cseq ?_; intro K2 hK2
 refine cseq ?_; intro K3 hK3
 refine creg ?_
 refine ymv ?_
 first
   | refine y (ev_len rfl Tryz.underlying53) rfl ?_
   | refine y (ev_lenSv rfl Tryz.underlying53 (by assumption)) rfl ?_
   | refine y (ev_lenV rfl Tryz.underlying53 (RdV.lenVal (by assumption))) rfl ?_
   | refine y (ev_lenV rfl Tryz.underlying53 (RdB.lenVal (by assumption))) rfl ?_
 refine ymv ?_
 refine ynil' (kthn (hK3 _ _ ?_))
 clear hK3
 have hJ1 : ∀ x : Nat, ((x ≤ l.length ∧ (l.take x).any oddB = false) ∧ (x = l.length)) → Sk 19 K2 ([(8, i64 x), (7, i64 l.length), (0, v), (1, oddF)]) (R) := by
  rintro k ⟨hI1, hX1⟩
  refine hK2 _ _ ?_
  obtain ⟨hk, hno⟩ := hI1
  subst hX1; rw [List.take_length] at hno
  refine cseq ?_; intro K4 hK4
  refine creg ?_
  refine yas ?_
  refine ynil' (kthn (hK4 _ _ ?_))
  clear hK4
  refine cret ?_
  first
    | (exfalso; omega; done)
    | (refine kretv Tryz.results102 rfl (L1 := [] ++ R) zge ?_
       exact ⟨_, ⟨_, rfl, ⟨fun _ => hyes, fun _ => by omega⟩, rfl⟩, rfl⟩)
    | (refine kretv Tryz.results102 rfl (L1 := [] ++ R) zge ?_
       exact ⟨_, ⟨_, rfl, ⟨fun h => by omega, fun h => by rw [hno] at h; cases h⟩, rfl⟩, rfl⟩)
 clear hK2
 refine cblock ?_
 refine cloop (A := Nat) (fun x => [(8, i64 x), (7, i64 l.length), (0, v), (1, oddF)]) (fun x => R) (fun x => x ≤ l.length ∧ (l.take x).any oddB = false) (fun x => l.length - x) (0) ?_ zsub zge ?_
 · exact ⟨Nat.zero_le _, by simp⟩
 rintro k hI1 KL1 hL1
 have hI1o := hI1
 obtain ⟨hk, hno⟩ := hI1
 refine cseq ?_; intro K5 hK5
 refine creg ?_
 refine y (ev_lss rfl rfl) rfl ?_
 refine ynil' (kthn (hK5 _ _ ?_))
 clear hK5
 refine cseq ?_; intro K6 hK6
 refine ccond rfl (fun h18 => ?_) (fun h18 => ?_)
 ·(try simp only [sH] at h18)
  refine cskip' (kthn (hK6 _ _ ?_))
  clear hK6
  refine cseq ?_; intro K7 hK7
  refine cblock ?_
  refine cseq ?_; intro K8 hK8
  refine creg ?_
  obtain ⟨y0, hy0⟩ : ∃ y, l[k]? = some y := ⟨_, List.getElem?_eq_getElem (by omega)⟩
  refine ymv ?_
  refine yas ?_
  refine ynil' (kthn (hK8 _ _ ?_))
  clear hK8
  refine cseq ?_; intro K9 hK9
  refine creg ?_
  refine ymv ?_
  refine ymv ?_
  refine ymv ?_
  refine y (ev_ixV hv rfl rfl Tryz.underlying53 Tryz.sizeOf2 (by omega) (by omega)) rfl ?_
  refine y (ev_loadV k hv zge rfl Tryz.isAgg2 (by simp) (intsV_get hy0)) rfl ?_
  refine ycallFf rfl (bOdd (n := y0)) rfl Tryz.call87 ztk rfl ?_
  rintro v L' ⟨rfl, rfl⟩
  refine ynil' (kthn (hK9 _ _ ?_))
  clear hK9
  refine ccond rfl (fun h27 => ?_) (fun h27 => ?_)
  ·(try simp only [sH] at h27)
   have hyes : l.any oddB = true := List.any_eq_true.2 ⟨y0, List.mem_of_getElem? hy0, h27⟩
   refine cseq ?_; intro K10 hK10
   refine creg ?_
   refine ymv ?_
   refine yas ?_
   refine ynil' (kthn (hK10 _ _ ?_))
   clear hK10
   refine cret (kbr (kthr (kthr (kbr (kthr ?_)))))
   first
     | (exfalso; omega; done)
     | (refine kretv Tryz.results102 rfl (L1 := [] ++ R) zge ?_
        exact ⟨_, ⟨_, rfl, ⟨fun _ => hyes, fun _ => by omega⟩, rfl⟩, rfl⟩)
     | (refine kretv Tryz.results102 rfl (L1 := [] ++ R) zge ?_
        exact ⟨_, ⟨_, rfl, ⟨fun h => by omega, fun h => by rw [hno] at h; cases h⟩, rfl⟩, rfl⟩)
  ·(try simp only [sH] at h27)
   have hno2 : (l.take (k + 1)).any oddB = false := by rw [take_snoc hy0, List.any_append, hno]; simp [h27]
   refine cskip' (kbn (kthn (hK7 _ _ ?_)))
   clear hK7
   refine creg ?_
   refine y (ev_add rfl rfl) rfl ?_
   rw [show IntKind.i64.wrap ((k:Int) + 1) = ((k+1 : Nat) : Int) by rw [wr (by omega) (by omega)]; rfl]
   refine ymv ?_
   refine ynil' (kthn ?_)
   exact hL1 (k + 1) (⟨by omega, hno2⟩) (by omega) _ _ zsub zge
 ·(try simp only [sH] at h18)
  refine cexit (kthx (kthx (kbx (kthn ?_))))
  exact ksub zsub zge (hJ1 k ⟨hI1o, by first | trivial | omega⟩)
theorem bContains [Env] {R : List Seg} {v : Value} {l : List Int} (hv : RdV R v l.length (intsV l)) (hll : l.length ≤ 1000) : Con Tryz.prog 86 [v, oddF] [] R (Is (.bool (l.any oddB)) []) := by
 refine con_enter Tryz.func86 Tryz.ntmps86 rfl rfl ?_
 refine cseq ?_; intro K1 hK1
 refine creg ?_
 refine yas ?_
 refine ynil' (kthn (hK1 _ _ ?_))
 clear hK1
 refine cseq ?_; intro K2 hK2
 refine creg ?_
 refine ymv ?_
 refine ymv ?_
 refine ycall (bIndex (l := l) ?ix35 ?il35) rfl Tryz.call102 ztk rfl ?_
 case ix35 => exact hv
 case il35 => exact hll
 rintro v L' ⟨r7, rfl, hr7, rfl⟩
 refine y (ev_geq rfl rfl) rfl ?_
 refine yas ?_
 refine ynil' (kthn (hK2 _ _ ?_))
 clear hK2
 refine cret ?_
 first
   | (exfalso; omega; done)
   | (refine kretv Tryz.results86 rfl (L1 := R) zge ?_
      exact ⟨_, ⟨by first | rfl | (cases hq : l.any oddB <;> simp_all; done), rfl⟩, by first | rfl | (cases hq : l.any oddB <;> simp_all; done)⟩)
theorem bRead [Env] {R : List Seg} {bs : Bytes} {kd ns ts : Int} (hl : bs.length ≤ 1000) (hns : ns ≤ 1000) : Con Tryz.prog 64 [str bs, i64 kd, i64 ns, i64 ts] [] R
   (fun u L' => ∃ sn st, u = .tuple #[recV (decM bs).1 sn st, .bool (readB bs kd ns ts).2] ∧ RecOk (decM bs).1 sn st ∧ L' = recSegs (decM bs).1 sn st) := by
 refine con_enter Tryz.func64 Tryz.ntmps64 rfl rfl ?_
 refine cseq ?_; intro K1 hK1
 refine creg ?_
 refine ya (ac_alloc Tryz.zeroValue100 rfl) rfl ?_
 rintro v L' ⟨b8, rfl, rfl⟩
 refine yas ?_
 refine ynil' (kthn (hK1 _ _ ?_))
 clear hK1
 refine cseq ?_; intro K2 hK2
 refine creg ?_
 refine ymv ?_
 refine ya (ac_toBytesY rfl Tryz.underlying9 Tryz.underlying50 Tryz.underlying5) rfl ?_
 rintro v L' ⟨b14, c14, sp14, fr14, rfl, hc14, rfl⟩
 refine ycall (cDecode (bs := bs) ?hb42) rfl Tryz.call41 ztk rfl ?_
 case hb42 => exact rdY_in zin hc14
 rintro v L' ⟨sn15, st15, rfl, ok15, rfl⟩
 have hrb : (readB bs kd ns ts).2 = (decide ((decM bs).2 = 0) && decide ((decM bs).1.kind = kd) && decide (((decM bs).1.nums.length : Int) = ns) && decide (((decM bs).1.texts.length : Int) = ts) && !(decM bs).1.nums.any oddB) := rfl
 generalize (readB bs kd ns ts).2 = ob at *
 generalize decM bs = de at *
 obtain ⟨rc, er⟩ := de
 dsimp only at ok15 hrb ⊢
 have okn := ok15.n
 have okt := ok15.t
 unfold recV
 have hvt : RdV [svSeg st15 9 (strsV rc.texts)] (svVal st15 rc.texts.length) rc.texts.length (strsV rc.texts) := rdV_sv .z okt
 have hvn : RdV [svSeg sn15 2 (intsV rc.nums)] (svVal sn15 rc.nums.length) rc.nums.length (intsV rc.nums) := rdV_sv .z okn
 refine ymv ?_
 refine yxt ?_
 refine yxt ?_
 refine ya (ac_alloc Tryz.zeroValue100 rfl) rfl ?_
 rintro v L' ⟨b10, rfl, rfl⟩
 refine ya0 (ac_storeAll rfl rfl (by first | exact bytesV_one _ | (simp [Value.oneCell']; done) | (simp only [List.forall_mem_cons, List.not_mem_nil, false_implies, implies_true, svVal_one, and_true, true_and, and_self]; first | done | simp [Value.oneCell'])) Tryz.sizeOf100 zrp (by first | rfl | assumption | (simp [*]; done) | (simp [*]; omega)) (by first | rfl | assumption | (simp [*]; done) | (simp [*]; omega))) ?_
 rintro v L' ⟨rfl, rfl⟩
 refine yas ?_
 refine ynil' (kthn (hK2 _ _ ?_))
 clear hK2
 refine cseq ?_; intro K3 hK3
 refine cdraw 30 [(0, true), (1, true), (2, true), (3, true), (4, true), (5, true), (6, true), (7, true), (8, true), (9, true), (10, true), (11, true), (12, true), (13, true), (14, true), (15, true), (16, true), (17, true), (18, true), (19, true), (20, true), (21, true), (22, true), (23, true), (24, true), (25, true), (26, false), (27, true), (28, true), (29, false)] ([sc b10 [i64 rc.kind, svVal sn15 rc.nums.length, svVal st15 rc.texts.length] 100, svSeg sn15 2 (intsV rc.nums), svSeg st15 9 (strsV rc.texts)] ++ R) Tryz.mixed (by kernel_rfl) zge ?_
 refine hr rfl (ev_loadN (u := [i64 rc.kind, svVal sn15 rc.nums.length, svVal st15 rc.texts.length]) rfl Tryz.isAgg100 Tryz.sizeOf100 zin rfl rfl) rfl ?_
 refine hr rfl (ev_move rfl) rfl ?_
 refine hr rfl (ev_eql rfl rfl) rfl ?_
 refine hr rfl (ev_move rfl) rfl ?_
 refine hsplit 21 rfl (fun h53 => ?_) (fun h53 => ?_)
 ·(try simp only [sH] at h53)
  refine hr1 rfl rfl rfl (ev_fieldAddr 0 rfl Tryz.underlying100 rfl Tryz.sizeOf3) rfl ?_
  refine hr1 rfl rfl rfl (ev_load rfl Tryz.isAgg3 zin rfl) rfl ?_
  refine hr1 rfl rfl rfl (ev_move rfl) rfl ?_
  refine hr1 rfl rfl rfl (ev_eql rfl rfl) rfl ?_
  refine hr rfl (ev_pick1 rfl rfl) rfl ?_
  refine hr rfl (ev_move rfl) rfl ?_
  refine hsplit 27 rfl (fun h60 => ?_) (fun h60 => ?_)
  ·(try simp only [sH] at h60)
   refine hr1 rfl rfl rfl (ev_fieldAddr 1 rfl Tryz.underlying100 rfl Tryz.sizeOf53) rfl ?_
   refine hr1 rfl rfl rfl (ev_load rfl Tryz.isAgg53 zin rfl) rfl ?_
   first
     | refine hr1 rfl rfl rfl (ev_len rfl Tryz.underlying53) rfl ?_
     | refine hr1 rfl rfl rfl (ev_lenSv rfl Tryz.underlying53 (by assumption)) rfl ?_
     | refine hr1 rfl rfl rfl (ev_lenV rfl Tryz.underlying53 (RdV.lenVal (by assumption))) rfl ?_
     | refine hr1 rfl rfl rfl (ev_lenV rfl Tryz.underlying53 (RdB.lenVal (by assumption))) rfl ?_
   refine hr1 rfl rfl rfl (ev_move rfl) rfl ?_
   refine hr1 rfl rfl rfl (ev_eql rfl rfl) rfl ?_
   refine hr rfl (ev_pick1 rfl rfl) rfl ?_
   refine hr rfl (ev_move rfl) rfl ?_
   refine hsplit 34 rfl (fun h68 => ?_) (fun h68 => ?_)
   ·(try simp only [sH] at h68)
    refine hr1 rfl rfl rfl (ev_fieldAddr 2 rfl Tryz.underlying100 rfl Tryz.sizeOf98) rfl ?_
    refine hr1 rfl rfl rfl (ev_load rfl Tryz.isAgg98 zin rfl) rfl ?_
    first
      | refine hr1 rfl rfl rfl (ev_len rfl Tryz.underlying98) rfl ?_
      | refine hr1 rfl rfl rfl (ev_lenSv rfl Tryz.underlying98 (by assumption)) rfl ?_
      | refine hr1 rfl rfl rfl (ev_lenV rfl Tryz.underlying98 (RdV.lenVal (by assumption))) rfl ?_
      | refine hr1 rfl rfl rfl (ev_lenV rfl Tryz.underlying98 (RdB.lenVal (by assumption))) rfl ?_
    refine hr1 rfl rfl rfl (ev_move rfl) rfl ?_
    refine hr1 rfl rfl rfl (ev_eql rfl rfl) rfl ?_
    refine hr rfl (ev_pick1 rfl rfl) rfl ?_
    refine hr rfl (ev_move rfl) rfl ?_
    refine hsplit 41 rfl (fun h76 => ?_) (fun h76 => ?_)
    ·(try simp only [sH] at h76)
     refine hr1 rfl rfl rfl (ev_fieldAddr 1 rfl Tryz.underlying100 rfl Tryz.sizeOf53) rfl ?_
     refine hr1 rfl rfl rfl (ev_load rfl Tryz.isAgg53 zin rfl) rfl ?_
     refine hcall1 rfl rfl rfl (bContains (l := rc.nums) ?ix79 ?il79) rfl Tryz.call86 ztk rfl ?_
     case ix79 => exact rdV_sv zin okn
     case il79 => omega
     rintro v L' ⟨rfl, rfl⟩; refine ⟨zge, ?_⟩
     refine hr1 rfl rfl rfl (ev_not rfl) rfl ?_
     refine hr rfl (ev_pick1 rfl rfl) rfl ?_
     refine haN rfl (ac_storeAll rfl rfl (by first | exact bytesV_one _ | (simp [Value.oneCell']; done) | (simp only [List.forall_mem_cons, List.not_mem_nil, false_implies, implies_true, svVal_one, and_true, true_and, and_self]; first | done | simp [Value.oneCell'])) Tryz.sizeOf100 zrp (by first | rfl | assumption | (simp [*]; done) | (simp [*]; omega)) (by first | rfl | assumption | (simp [*]; done) | (simp [*]; omega))) ?_
     rintro v L' ⟨rfl, rfl⟩; refine ⟨zge, ?_⟩
     refine hnil ?_
     refine yas ?_
     refine hnoP' (kthn (hK3 _ _ ?_))
     clear hK3
     refine cret ?_
     first
       | (exfalso; omega; done)
       | (refine kretct Tryz.results64 rfl rfl Tryz.isAgg100 Tryz.sizeOf100 zin (rfl) (L1 := [svSeg sn15 2 (intsV rc.nums), svSeg st15 9 (strsV rc.texts)] ++ R) zge ?_
          exact ⟨_, ⟨sn15, st15, by rw [hrb]; first | (rw [decide_eq_false (show ¬ er = 0 by assumption)]; rfl) | (rw [decide_eq_true (show er = 0 by assumption), decide_eq_false (show ¬ rc.kind = kd by assumption)]; rfl) | (rw [decide_eq_true (show er = 0 by assumption), decide_eq_true (show rc.kind = kd by assumption), decide_eq_false (show ¬ (rc.nums.length : Int) = ns by assumption)]; rfl) | (rw [decide_eq_true (show er = 0 by assumption), decide_eq_true (show rc.kind = kd by assumption), decide_eq_true (show (rc.nums.length : Int) = ns by assumption), decide_eq_false (show ¬ (rc.texts.length : Int) = ts by assumption)]; rfl) | (rw [decide_eq_true (show er = 0 by assumption), decide_eq_true (show rc.kind = kd by assumption), decide_eq_true (show (rc.nums.length : Int) = ns by assumption), decide_eq_true (show (rc.texts.length : Int) = ts by assumption)]; rfl), ok15, rfl⟩, rfl⟩)
    ·(try simp only [sH] at h76)
     refine hr0 rfl rfl rfl rfl rfl ?_
     refine hr0 rfl rfl rfl rfl rfl ?_
     refine ha0 rfl rfl rfl rfl rfl zge ?_
     refine hr0 rfl rfl rfl rfl rfl ?_
     refine hr rfl (ev_pick0 rfl rfl) rfl ?_
     refine haN rfl (ac_storeAll rfl rfl (by first | exact bytesV_one _ | (simp [Value.oneCell']; done) | (simp only [List.forall_mem_cons, List.not_mem_nil, false_implies, implies_true, svVal_one, and_true, true_and, and_self]; first | done | simp [Value.oneCell'])) Tryz.sizeOf100 zrp (by first | rfl | assumption | (simp [*]; done) | (simp [*]; omega)) (by first | rfl | assumption | (simp [*]; done) | (simp [*]; omega))) ?_
     rintro v L' ⟨rfl, rfl⟩; refine ⟨zge, ?_⟩
     refine hnil ?_
     refine yas ?_
     refine hnoP' (kthn (hK3 _ _ ?_))
     clear hK3
     refine cret ?_
     first
       | (exfalso; omega; done)
       | (refine kretct Tryz.results64 rfl rfl Tryz.isAgg100 Tryz.sizeOf100 zin (rfl) (L1 := [svSeg sn15 2 (intsV rc.nums), svSeg st15 9 (strsV rc.texts)] ++ R) zge ?_
          exact ⟨_, ⟨sn15, st15, by rw [hrb]; first | (rw [decide_eq_false (show ¬ er = 0 by assumption)]; rfl) | (rw [decide_eq_true (show er = 0 by assumption), decide_eq_false (show ¬ rc.kind = kd by assumption)]; rfl) | (rw [decide_eq_true (show er = 0 by assumption), decide_eq_true (show rc.kind = kd by assumption), decide_eq_false (show ¬ (rc.nums.length : Int) = ns by assumption)]; rfl) | (rw [decide_eq_true (show er = 0 by assumption), decide_eq_true (show rc.kind = kd by assumption), decide_eq_true (show (rc.nums.length : Int) = ns by assumption), decide_eq_false (show ¬ (rc.texts.length : Int) = ts by assumption)]; rfl) | (rw [decide_eq_true (show er = 0 by assumption), decide_eq_true (show rc.kind = kd by assumption), decide_eq_true (show (rc.nums.length : Int) = ns by assumption), decide_eq_true (show (rc.texts.length : Int) = ts by assumption)]; rfl), ok15, rfl⟩, rfl⟩)
   ·(try simp only [sH] at h68)
    refine hr0 rfl rfl rfl rfl rfl ?_
    refine hr0 rfl rfl rfl rfl rfl ?_
    refine hr0 rfl rfl rfl rfl rfl ?_
    refine hr0 rfl rfl rfl rfl rfl ?_
    refine hr0 rfl rfl rfl rfl rfl ?_
    refine hr rfl (ev_pick0 rfl rfl) rfl ?_
    refine hr rfl (ev_move rfl) rfl ?_
    refine hr0 rfl rfl rfl rfl rfl ?_
    refine hr0 rfl rfl rfl rfl rfl ?_
    refine ha0 rfl rfl rfl rfl rfl zge ?_
    refine hr0 rfl rfl rfl rfl rfl ?_
    refine hr rfl (ev_pick0 rfl rfl) rfl ?_
    refine haN rfl (ac_storeAll rfl rfl (by first | exact bytesV_one _ | (simp [Value.oneCell']; done) | (simp only [List.forall_mem_cons, List.not_mem_nil, false_implies, implies_true, svVal_one, and_true, true_and, and_self]; first | done | simp [Value.oneCell'])) Tryz.sizeOf100 zrp (by first | rfl | assumption | (simp [*]; done) | (simp [*]; omega)) (by first | rfl | assumption | (simp [*]; done) | (simp [*]; omega))) ?_
    rintro v L' ⟨rfl, rfl⟩; refine ⟨zge, ?_⟩
    refine hnil ?_
    refine yas ?_
    refine hnoP' (kthn (hK3 _ _ ?_))
    clear hK3
    refine cret ?_
    first
      | (exfalso; omega; done)
      | (refine kretct Tryz.results64 rfl rfl Tryz.isAgg100 Tryz.sizeOf100 zin (rfl) (L1 := [svSeg sn15 2 (intsV rc.nums), svSeg st15 9 (strsV rc.texts)] ++ R) zge ?_
         exact ⟨_, ⟨sn15, st15, by rw [hrb]; first | (rw [decide_eq_false (show ¬ er = 0 by assumption)]; rfl) | (rw [decide_eq_true (show er = 0 by assumption), decide_eq_false (show ¬ rc.kind = kd by assumption)]; rfl) | (rw [decide_eq_true (show er = 0 by assumption), decide_eq_true (show rc.kind = kd by assumption), decide_eq_false (show ¬ (rc.nums.length : Int) = ns by assumption)]; rfl) | (rw [decide_eq_true (show er = 0 by assumption), decide_eq_true (show rc.kind = kd by assumption), decide_eq_true (show (rc.nums.length : Int) = ns by assumption), decide_eq_false (show ¬ (rc.texts.length : Int) = ts by assumption)]; rfl) | (rw [decide_eq_true (show er = 0 by assumption), decide_eq_true (show rc.kind = kd by assumption), decide_eq_true (show (rc.nums.length : Int) = ns by assumption), decide_eq_true (show (rc.texts.length : Int) = ts by assumption)]; rfl), ok15, rfl⟩, rfl⟩)
  ·(try simp only [sH] at h60)
   refine hr0 rfl rfl rfl rfl rfl ?_
   refine hr0 rfl rfl rfl rfl rfl ?_
   refine hr0 rfl rfl rfl rfl rfl ?_
   refine hr0 rfl rfl rfl rfl rfl ?_
   refine hr0 rfl rfl rfl rfl rfl ?_
   refine hr rfl (ev_pick0 rfl rfl) rfl ?_
   refine hr rfl (ev_move rfl) rfl ?_
   refine hr0 rfl rfl rfl rfl rfl ?_
   refine hr0 rfl rfl rfl rfl rfl ?_
   refine hr0 rfl rfl rfl rfl rfl ?_
   refine hr0 rfl rfl rfl rfl rfl ?_
   refine hr0 rfl rfl rfl rfl rfl ?_
   refine hr rfl (ev_pick0 rfl rfl) rfl ?_
   refine hr rfl (ev_move rfl) rfl ?_
   refine hr0 rfl rfl rfl rfl rfl ?_
   refine hr0 rfl rfl rfl rfl rfl ?_
   refine ha0 rfl rfl rfl rfl rfl zge ?_
   refine hr0 rfl rfl rfl rfl rfl ?_
   refine hr rfl (ev_pick0 rfl rfl) rfl ?_
   refine haN rfl (ac_storeAll rfl rfl (by first | exact bytesV_one _ | (simp [Value.oneCell']; done) | (simp only [List.forall_mem_cons, List.not_mem_nil, false_implies, implies_true, svVal_one, and_true, true_and, and_self]; first | done | simp [Value.oneCell'])) Tryz.sizeOf100 zrp (by first | rfl | assumption | (simp [*]; done) | (simp [*]; omega)) (by first | rfl | assumption | (simp [*]; done) | (simp [*]; omega))) ?_
   rintro v L' ⟨rfl, rfl⟩; refine ⟨zge, ?_⟩
   refine hnil ?_
   refine yas ?_
   refine hnoP' (kthn (hK3 _ _ ?_))
   clear hK3
   refine cret ?_
   first
     | (exfalso; omega; done)
     | (refine kretct Tryz.results64 rfl rfl Tryz.isAgg100 Tryz.sizeOf100 zin (rfl) (L1 := [svSeg sn15 2 (intsV rc.nums), svSeg st15 9 (strsV rc.texts)] ++ R) zge ?_
        exact ⟨_, ⟨sn15, st15, by rw [hrb]; first | (rw [decide_eq_false (show ¬ er = 0 by assumption)]; rfl) | (rw [decide_eq_true (show er = 0 by assumption), decide_eq_false (show ¬ rc.kind = kd by assumption)]; rfl) | (rw [decide_eq_true (show er = 0 by assumption), decide_eq_true (show rc.kind = kd by assumption), decide_eq_false (show ¬ (rc.nums.length : Int) = ns by assumption)]; rfl) | (rw [decide_eq_true (show er = 0 by assumption), decide_eq_true (show rc.kind = kd by assumption), decide_eq_true (show (rc.nums.length : Int) = ns by assumption), decide_eq_false (show ¬ (rc.texts.length : Int) = ts by assumption)]; rfl) | (rw [decide_eq_true (show er = 0 by assumption), decide_eq_true (show rc.kind = kd by assumption), decide_eq_true (show (rc.nums.length : Int) = ns by assumption), decide_eq_true (show (rc.texts.length : Int) = ts by assumption)]; rfl), ok15, rfl⟩, rfl⟩)
 ·(try simp only [sH] at h53)
  refine hr0 rfl rfl rfl rfl rfl ?_
  refine hr0 rfl rfl rfl rfl rfl ?_
  refine hr0 rfl rfl rfl rfl rfl ?_
  refine hr0 rfl rfl rfl rfl rfl ?_
  refine hr rfl (ev_pick0 rfl rfl) rfl ?_
  refine hr rfl (ev_move rfl) rfl ?_
  refine hr0 rfl rfl rfl rfl rfl ?_
  refine hr0 rfl rfl rfl rfl rfl ?_
  refine hr0 rfl rfl rfl rfl rfl ?_
  refine hr0 rfl rfl rfl rfl rfl ?_
  refine hr0 rfl rfl rfl rfl rfl ?_
  refine hr rfl (ev_pick0 rfl rfl) rfl ?_
  refine hr rfl (ev_move rfl) rfl ?_
  refine hr0 rfl rfl rfl rfl rfl ?_
  refine hr0 rfl rfl rfl rfl rfl ?_
  refine hr0 rfl rfl rfl rfl rfl ?_
  refine hr0 rfl rfl rfl rfl rfl ?_
  refine hr0 rfl rfl rfl rfl rfl ?_
  refine hr rfl (ev_pick0 rfl rfl) rfl ?_
  refine hr rfl (ev_move rfl) rfl ?_
  refine hr0 rfl rfl rfl rfl rfl ?_
  refine hr0 rfl rfl rfl rfl rfl ?_
  refine ha0 rfl rfl rfl rfl rfl zge ?_
  refine hr0 rfl rfl rfl rfl rfl ?_
  refine hr rfl (ev_pick0 rfl rfl) rfl ?_
  refine haN rfl (ac_storeAll rfl rfl (by first | exact bytesV_one _ | (simp [Value.oneCell']; done) | (simp only [List.forall_mem_cons, List.not_mem_nil, false_implies, implies_true, svVal_one, and_true, true_and, and_self]; first | done | simp [Value.oneCell'])) Tryz.sizeOf100 zrp (by first | rfl | assumption | (simp [*]; done) | (simp [*]; omega)) (by first | rfl | assumption | (simp [*]; done) | (simp [*]; omega))) ?_
  rintro v L' ⟨rfl, rfl⟩; refine ⟨zge, ?_⟩
  refine hnil ?_
  refine yas ?_
  refine hnoP' (kthn (hK3 _ _ ?_))
  clear hK3
  refine cret ?_
  first
    | (exfalso; omega; done)
    | (refine kretct Tryz.results64 rfl rfl Tryz.isAgg100 Tryz.sizeOf100 zin (rfl) (L1 := [svSeg sn15 2 (intsV rc.nums), svSeg st15 9 (strsV rc.texts)] ++ R) zge ?_
       exact ⟨_, ⟨sn15, st15, by rw [hrb]; first | (rw [decide_eq_false (show ¬ er = 0 by assumption)]; rfl) | (rw [decide_eq_true (show er = 0 by assumption), decide_eq_false (show ¬ rc.kind = kd by assumption)]; rfl) | (rw [decide_eq_true (show er = 0 by assumption), decide_eq_true (show rc.kind = kd by assumption), decide_eq_false (show ¬ (rc.nums.length : Int) = ns by assumption)]; rfl) | (rw [decide_eq_true (show er = 0 by assumption), decide_eq_true (show rc.kind = kd by assumption), decide_eq_true (show (rc.nums.length : Int) = ns by assumption), decide_eq_false (show ¬ (rc.texts.length : Int) = ts by assumption)]; rfl) | (rw [decide_eq_true (show er = 0 by assumption), decide_eq_true (show rc.kind = kd by assumption), decide_eq_true (show (rc.nums.length : Int) = ns by assumption), decide_eq_true (show (rc.texts.length : Int) = ts by assumption)]; rfl), ok15, rfl⟩, rfl⟩)
end W
end Go.Proofs
