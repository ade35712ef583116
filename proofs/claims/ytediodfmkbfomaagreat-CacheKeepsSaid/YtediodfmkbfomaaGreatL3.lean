/- A part of the proof: contracts and plain lemmas, each without conditions beyond those that it names. -/
import Derived.Test.YtediodfmkbfomaaGreatL2
set_option linter.unusedVariables false
set_option linter.unusedSimpArgs false
set_option linter.constructorNameAsVariable false
namespace Go.Proofs
open Go Go.Sl
namespace W
set_option linter.unusedVariables false
theorem lClone1 [Env] {R : List Seg} {a : Addr} {m c : Nat} {xs : List (Bytes × Int)} (hm : m = xs.length) (hb : RdV R (.slice (some a) m c) m (itemsV xs)) (hl : m ≤ 512) :
   Con Tryz.prog 90 [.slice (some a) m c] [] R (KSv 132 m 2 (itemsV xs) []) := by
 have hlen := itemsV_len xs
 refine con_enter Tryz.func90 Tryz.ntmps90 rfl rfl ?_
 refine cseq ?_; intro K1 hK1
 refine creg ?_
 refine yas ?_
 refine ynil' (kthn (hK1 _ _ ?_))
 clear hK1
 refine cseq ?_; intro K2 hK2
 refine cseq ?_; intro K3 hK3
 refine creg ?_
 refine ymv ?_
 refine y (ev_eqlLnil rfl rfl Tryz.underlying122) rfl ?_
 refine ynil' (kthn (hK3 _ _ ?_))
 clear hK3
 refine ccond rfl (fun h4 => ?_) (fun h4 => ?_)
 ·(try simp only [sH] at h4)
  exact absurd h4 (by simp)
 ·(try simp only [sH] at h4)
  refine cskip' (kthn (hK2 _ _ ?_))
  clear hK2
  refine cseq ?_; intro K4 hK4
  refine creg ?_
  refine ya (ac_bslice0 Tryz.underlying122 Tryz.sizeOf132) rfl ?_
  rintro v L' ⟨b5, rfl, rfl⟩
  refine ymv ?_
  refine ya (ac_append (k := m) (us := itemsV xs) (size := 2) rfl rfl (by repeat first | exact .z | apply Pk.s) Tryz.underlying122 Tryz.underlying122 (by intro q hq; cases hq) Tryz.typeInfo132 rfl rfl rfl ?ok7 ?src7 ?one7 ?big7) rfl ?_
  case ok7 => exact ⟨Nat.le_refl _, by decide, rfl, rfl⟩
  case src7 => exact srcV (hb.mono zge) (by omega)
  case one7 => exact itemsV_one _
  case big7 => show (_ + _) * 25 ≤ _; omega
  rintro v L' ⟨s7, rfl, ok7, rfl⟩
  rw [Nat.zero_add] at ok7; rw [Nat.zero_add]
  refine yas ?_
  refine ynil' (kthn (hK4 _ _ ?_))
  clear hK4
  refine cret ?_
  first
    | (exfalso; omega; done)
    | (refine kretv Tryz.results90 rfl (L1 := _) zge ?_
       exact ⟨_, ⟨s7, rfl, ok7, rfl⟩, rfl⟩)
theorem lClone0 [Env] {R : List Seg} :
   Con Tryz.prog 90 [nilS] [] R (KSv 132 0 2 [] []) := by
 refine con_enter Tryz.func90 Tryz.ntmps90 rfl rfl ?_
 refine cseq ?_; intro K1 hK1
 refine creg ?_
 refine yas ?_
 refine ynil' (kthn (hK1 _ _ ?_))
 clear hK1
 refine cseq ?_; intro K2 hK2
 refine cseq ?_; intro K3 hK3
 refine creg ?_
 refine ymv ?_
 refine y (ev_eqlLnil rfl rfl Tryz.underlying122) rfl ?_
 refine ynil' (kthn (hK3 _ _ ?_))
 clear hK3
 refine ccond rfl (fun h12 => ?_) (fun h12 => ?_)
 ·(try simp only [sH] at h12)
  refine cseq ?_; intro K4 hK4
  refine creg ?_
  refine yas ?_
  refine ynil' (kthn (hK4 _ _ ?_))
  clear hK4
  refine cret (kthr ?_)
  first
    | (exfalso; omega; done)
    | (refine kretv Tryz.results90 rfl (L1 := [svSeg none 132 []] ++ R) zge ?_
       exact ⟨_, ⟨none, rfl, ⟨rfl, rfl⟩, rfl⟩, rfl⟩)
 ·(try simp only [sH] at h12)
  cases h12
theorem lClone [Env] {R : List Seg} {v : Value} {xs : List (Bytes × Int)} (hb : RdV R v xs.length (itemsV xs)) (hl : xs.length ≤ 512) :
   Con Tryz.prog 90 [v] [] R (KSv 132 xs.length 2 (itemsV xs) []) := by
 rcases hb with ⟨rfl, h2, h3⟩ | ⟨a, c, rfl, h4⟩
 · rw [h2, h3]; exact lClone0
 · exact lClone1 rfl (.inr ⟨a, c, rfl, h4⟩) hl
theorem lAppend [Env] {R : List Seg} {l c : Nat} {q : Q3} {sl : Sv} {L : LogM} {D : Dev} {s : Bytes} (hL : L.ok D) (hs : itOk sl L) :
   Con Tryz.prog 57 [ptr l, str s] [logP l c q sl L, itS sl L, dev q D] R
     (fun u L' => ∃ sl', u = i64 (L.append D s).1 ∧ itOk sl' (L.append D s).2.1 ∧ L' = [logP l c q sl' (L.append D s).2.1, itS sl' (L.append D s).2.1, dev q (L.append D s).2.2]) := by
 have hn5 := LogM.n_le hL
 have hf5 := LogM.first_le hL
 have hl5 := items_len hL
 have htm := hL.time
 have hhd := hL.head
 have htl := hL.tail
 have htd : L.tail = L.head + L.l.length := rfl
 have hn2 := hL.n
 have hff := hL.first
 refine con_enter Tryz.func57 Tryz.ntmps57 rfl rfl ?_
 refine cseq ?_; intro K1 hK1
 refine creg ?_
 refine yas ?_
 refine ynil' (kthn (hK1 _ _ ?_))
 clear hK1
 refine cseq ?_; intro K2 hK2
 refine cblock ?_
 refine cseq ?_; intro K3 hK3
 refine creg ?_
 refine ymv ?_
 first
   | refine y (ev_lenStr rfl Tryz.underlying9) rfl ?_
   | refine y (ev_lenS rfl Tryz.underlying9) rfl ?_
 refine y (ev_gtr rfl rfl) rfl ?_
 refine yas ?_
 refine ynil' (kthn (hK3 _ _ ?_))
 clear hK3
 refine ccond rfl (fun h19 => ?_) (fun h19 => ?_)
 ·(try simp only [sH] at h19)
  refine cseq ?_; intro K4 hK4
  refine creg ?_
  have hap : L.append D s = (3, L, D) := by unfold LogM.append; rw [if_pos (by omega)]
  refine yas ?_
  refine ynil' (kthn (hK4 _ _ ?_))
  clear hK4
  refine cret (kbr (kthr ?_))
  first
    | (exfalso; omega; done)
    | (refine kretv Tryz.results57 rfl (L1 := [logP l c q _ _, itS _ _, dev q _] ++ R) zge ?_
       rw [hap]; exact ⟨_, ⟨sl, rfl, hs, rfl⟩, rfl⟩)
 ·(try simp only [sH] at h19)
  refine cseq ?_; intro K5 hK5
  refine creg ?_
  refine ymv ?_
  refine ycall (lFree ?fz22 ?fa22 ?fb22) rfl Tryz.call71 ztk rfl ?_
  case fz22 => exact hs
  case fa22 => exact hn5
  case fb22 => exact hl5
  rintro v L' ⟨rfl, rfl⟩
  refine y (ev_eql rfl rfl) rfl ?_
  refine yas ?_
  refine ynil' (kthn (hK5 _ _ ?_))
  clear hK5
  refine ccond rfl (fun h25 => ?_) (fun h25 => ?_)
  ·(try simp only [sH] at h25)
   refine cseq ?_; intro K6 hK6
   refine creg ?_
   have hap : L.append D s = (12, L, D) := by unfold LogM.append; rw [if_neg (by omega), if_pos (by omega)]
   refine yas ?_
   refine ynil' (kthn (hK6 _ _ ?_))
   clear hK6
   refine cret (kbr (kthr ?_))
   first
     | (exfalso; omega; done)
     | (refine kretv Tryz.results57 rfl (L1 := [logP l c q _ _, itS _ _, dev q _] ++ R) zge ?_
        rw [hap]; exact ⟨_, ⟨sl, rfl, hs, rfl⟩, rfl⟩)
  ·(try simp only [sH] at h25)
   refine cseq ?_; intro K7 hK7
   refine creg ?_
   refine ymv ?_
   refine ycall (lTail ?qz28 ?qa28 ?qb28 ?qc28) rfl Tryz.call56 ztk rfl ?_
   case qz28 => exact hs
   case qa28 => omega
   case qb28 => omega
   case qc28 => omega
   rintro v L' ⟨rfl, rfl⟩
   refine y (ev_geq rfl rfl) rfl ?_
   refine yas ?_
   refine ynil' (kthn (hK7 _ _ ?_))
   clear hK7
   refine ccond rfl (fun h31 => ?_) (fun h31 => ?_)
   ·(try simp only [sH] at h31)
    refine cseq ?_; intro K8 hK8
    refine creg ?_
    have hap : L.append D s = (23, L, D) := by unfold LogM.append; rw [if_neg (by omega), if_neg (by omega), if_pos (by omega)]
    refine yas ?_
    refine ynil' (kthn (hK8 _ _ ?_))
    clear hK8
    refine cret (kbr (kthr ?_))
    first
      | (exfalso; omega; done)
      | (refine kretv Tryz.results57 rfl (L1 := [logP l c q _ _, itS _ _, dev q _] ++ R) zge ?_
         rw [hap]; exact ⟨_, ⟨sl, rfl, hs, rfl⟩, rfl⟩)
   ·(try simp only [sH] at h31)
    have hap : L.append D s = ((D.write (L.place L.tail) (frL L.tail L.time s)).1, (if (D.write (L.place L.tail) (frL L.tail L.time s)).1 = 0 then { L with l := L.l ++ [(s, L.time)] } else L), (D.write (L.place L.tail) (frL L.tail L.time s)).2) := by unfold LogM.append; rw [if_neg (by omega), if_neg (by omega), if_neg (by omega)]
    have hmay : (recL L.tail L.time s).may := recL_may ⟨by omega, by omega⟩ ⟨by omega, by omega⟩ (by omega)
    have hrl := recL_len (q := L.tail) (t := L.time) (s := s) ⟨by omega, by omega⟩ ⟨by omega, by omega⟩ (by omega)
    obtain ⟨w, hw⟩ : ∃ w, D.write (L.place L.tail) (frL L.tail L.time s) = w := ⟨_, rfl⟩
    rw [hw] at hap
    refine cskip' (kbn (kthn (hK2 _ _ ?_)))
    clear hK2
    refine cseq ?_; intro K9 hK9
    have hJr8 : ∀ x : Unit, (True) → Sk 56 K9 ([(0, ptr l), (1, str s), (5, i64 w.1)]) ([logP l c q sl L, itS sl L, dev q w.2] ++ R) := by
     rintro x hIr8
     refine hK9 _ _ ?_
     refine cseq ?_; intro K10 hK10
     refine cseq ?_; intro K11 hK11
     refine creg ?_
     refine ymv ?_
     refine y (ev_eql rfl rfl) rfl ?_
     refine ynil' (kthn (hK11 _ _ ?_))
     clear hK11
     refine ccond rfl (fun h35 => ?_) (fun h35 => ?_)
     ·(try simp only [sH] at h35)
      rw [if_pos h35] at hap
      refine cdraw 15 [(0, true), (1, true), (2, true), (3, true), (4, true), (5, true), (6, true), (7, true), (8, true), (9, true), (10, true), (11, false), (12, false), (13, true), (14, true)] ([logP l c q sl L] ++ R) Tryz.mixed (by kernel_rfl) zge ?_
      refine hr rfl (ev_move rfl) rfl ?_
      refine hr rfl (ev_move rfl) rfl ?_
      refine hr rfl (ev_nil rfl) rfl ?_
      refine hr rfl (ev_fieldAddr 7 rfl Tryz.underlying124 rfl Tryz.sizeOf122) rfl ?_
      refine hr rfl (ev_load rfl Tryz.isAgg122 zin rfl) rfl ?_
      refine hr rfl (ev_move rfl) rfl ?_
      refine hr rfl (ev_move rfl) rfl ?_
      refine hr rfl (ev_nil rfl) rfl ?_
      refine hr rfl (ev_fieldAddr 5 rfl Tryz.underlying124 rfl Tryz.sizeOf2) rfl ?_
      refine hr rfl (ev_load rfl Tryz.isAgg2 zin rfl) rfl ?_
      refine hr rfl (ev_build (zs := _) rfl Tryz.underlying132 Tryz.zeroValue132 rfl (.cons Tryz.sizeOf9 (.cons Tryz.sizeOf2 .nil)) ⟨⟨_, _, rfl, (by first | rfl | simp), (by first | decide | simp)⟩, ⟨⟨_, _, rfl, (by first | rfl | simp), (by first | decide | simp)⟩, trivial⟩⟩ (by dsimp [fillL, splice, vcells] <;> rfl)) rfl ?_
      refine ha rfl (ac_bsliceR rfl Tryz.underlying122 Tryz.sizeOf132 Tryz.zeroValue132 rfl rfl rfl rfl ⟨⟨_, _, rfl, (by first | rfl | simp), (by first | decide | simp)⟩, trivial⟩ (by dsimp [fillL, splice, vcells, reps] <;> rfl)) rfl ?_
      rintro v L' ⟨b51, rfl, rfl⟩; refine ⟨zge, ?_⟩
      refine ha rfl (ac_append (s := sl) (xs := itemsV L.l) (m := L.l.length) (k := 1) (us := itemsV [(s, L.time)]) (size := 2) rfl rfl (by repeat first | exact .z | apply Pk.s) Tryz.underlying122 Tryz.underlying122 (by intro q hq; cases hq) Tryz.typeInfo132 rfl rfl rfl ?ok48 ?src48 ?one48 ?big48) rfl ?_
      case ok48 => exact hs
      case src48 => exact src_at zin rfl rfl
      case one48 => exact itemsV_one _
      case big48 => show (_ + _) * 25 ≤ _; omega
      rintro v L' ⟨s52, rfl, ok52, rfl⟩; refine ⟨zge, ?_⟩
      rw [← itemsV_app] at ok52 ⊢
      refine hr rfl (ev_nil rfl) rfl ?_
      refine hr rfl (ev_fieldAddr 7 rfl Tryz.underlying124 rfl Tryz.sizeOf122) rfl ?_
      refine hnil ?_
      refine ya0 (ac_store rfl rfl (by first | rfl | exact svVal_one _ _ | assumption) Tryz.sizeOf122 zrp rfl rfl) ?_
      rintro v L' ⟨rfl, rfl⟩
      refine hnoP' (kthn (hK10 _ _ ?_))
      clear hK10
      refine cseq ?_; intro K12 hK12
      refine creg ?_
      refine ymv ?_
      refine yas ?_
      refine ynil' (kthn (hK12 _ _ ?_))
      clear hK12
      refine cret ?_
      first
        | (exfalso; omega; done)
        | (refine kretv Tryz.results57 rfl (L1 := [logP l c q sl L, itS sl L, dev q w.2] ++ R) zge ?_
           rw [hap]; exact ⟨_, ⟨sl, rfl, hs, rfl⟩, rfl⟩)
        | (refine kretv Tryz.results57 rfl (L1 := [sc l _ 124, svSeg s52 _ _, dev q w.2] ++ R) zge ?_
           rw [hap]; exact ⟨_, ⟨s52, rfl, by unfold itOk; rw [List.length_append]; exact ok52, by unfold logP itS; rw [List.length_append]; rfl⟩, rfl⟩)
     ·(try simp only [sH] at h35)
      rw [if_neg h35] at hap
      refine cskip' (kthn (hK10 _ _ ?_))
      clear hK10
      refine cseq ?_; intro K13 hK13
      refine creg ?_
      refine ymv ?_
      refine yas ?_
      refine ynil' (kthn (hK13 _ _ ?_))
      clear hK13
      refine cret ?_
      first
        | (exfalso; omega; done)
        | (refine kretv Tryz.results57 rfl (L1 := [logP l c q sl L, itS sl L, dev q w.2] ++ R) zge ?_
           rw [hap]; exact ⟨_, ⟨sl, rfl, hs, rfl⟩, rfl⟩)
        | (refine kretv Tryz.results57 rfl (L1 := [sc l _ 124, svSeg s52 _ _, dev q w.2] ++ R) zge ?_
           rw [hap]; exact ⟨_, ⟨s52, rfl, by unfold itOk; rw [List.length_append]; exact ok52, by unfold logP itS; rw [List.length_append]; rfl⟩, rfl⟩)
    clear hK9
    refine cdrawN 19 (.op 0 0 (.op 1 0 (.op 2 0 (.op 3 1 (.op 4 0 (.op 5 0 (.op 8 0 (.op 10 0 (.op 11 0 (.op 12 0 (.op 13 1 (.op 15 0 (.fork 6 (.fork 7 (.fork 9 (.fork 14 (.op 16 2 (.op 17 0 (.op 18 2 (.nil)))) 16 (.op 14 2 (.op 17 0 (.op 18 2 (.nil))))) 16 (.op 9 2 (.op 14 2 (.op 17 0 (.op 18 2 (.nil)))))) 16 (.op 7 2 (.op 9 2 (.op 14 2 (.op 17 0 (.op 18 2 (.nil))))))) 16 (.op 6 2 (.op 7 2 (.op 9 2 (.op 14 2 (.op 17 0 (.op 18 2 (.nil)))))))))))))))))))) ([logP l c q sl L, itS sl L] ++ R) Tryz.mixed (by kernel_rfl) zge ?_
    refine nz rfl (ev_move rfl) rfl ?_
    refine nz rfl (ev_nil rfl) rfl ?_
    refine nz rfl (ev_fieldAddr 0 rfl Tryz.underlying124 rfl Tryz.sizeOf25) rfl ?_
    refine nr rfl (ev_load rfl Tryz.isAgg25 zin rfl) rfl ?_
    refine nz rfl (ev_move rfl) rfl ?_
    refine nz rfl (ev_move rfl) rfl ?_
    refine nz rfl (ev_move rfl) rfl ?_
    refine nz rfl (ev_move rfl) rfl ?_
    refine nz rfl (ev_nil rfl) rfl ?_
    refine nz rfl (ev_fieldAddr 5 rfl Tryz.underlying124 rfl Tryz.sizeOf2) rfl ?_
    refine nr rfl (ev_load rfl Tryz.isAgg2 zin rfl) rfl ?_
    refine nz rfl (ev_move rfl) rfl ?_
    refine nfork ?_ ?_
    ·skip
     refine ncall rfl (lTail ?qz68 ?qa68 ?qb68 ?qc68) rfl Tryz.call56 ztk rfl ?_
     case qz68 => exact hs
     case qa68 => omega
     case qb68 => omega
     case qc68 => omega
     rintro v L' ⟨rfl, rfl⟩; refine ⟨zge, ?_⟩
     refine nfork ?_ ?_
     ·skip
      refine ncall rfl (lPlace ?pa69 ?pb69 ?pc69 ?pd69 ?pe69 ?pf69) rfl Tryz.call75 ztk rfl ?_
      case pa69 => omega
      case pb69 => omega
      case pc69 => exact hn2
      case pd69 => exact hn5
      case pe69 => exact hff.1
      case pf69 => exact hf5
      rintro v L' ⟨rfl, rfl⟩; refine ⟨zge, ?_⟩
      refine nfork ?_ ?_
      ·skip
       refine ncall rfl (lTail ?qz70 ?qa70 ?qb70 ?qc70) rfl Tryz.call56 ztk rfl ?_
       case qz70 => exact hs
       case qa70 => omega
       case qb70 => omega
       case qc70 => omega
       rintro v L' ⟨rfl, rfl⟩; refine ⟨zge, ?_⟩
       refine nfork ?_ ?_
       ·skip
        refine na rfl (ac_bsliceR rfl Tryz.underlying56 Tryz.sizeOf2 Tryz.zeroValue2 rfl rfl rfl rfl ⟨⟨_, _, rfl, (by first | rfl | simp), (by first | decide | simp)⟩, ⟨⟨_, _, rfl, (by first | rfl | simp), (by first | decide | simp)⟩, trivial⟩⟩ (by dsimp [fillL, splice, vcells, reps] <;> rfl)) rfl ?_
        rintro v L' ⟨b32, rfl, rfl⟩; refine ⟨zge, ?_⟩
        refine na rfl (ac_bsliceR rfl Tryz.underlying98 Tryz.sizeOf9 Tryz.zeroValue9 rfl rfl rfl rfl ⟨⟨_, _, rfl, (by first | rfl | simp), (by first | decide | simp)⟩, trivial⟩ (by dsimp [fillL, splice, vcells, reps] <;> rfl)) rfl ?_
        rintro v L' ⟨b34, rfl, rfl⟩; refine ⟨zge, ?_⟩
        refine nz rfl (ev_build (zs := _) rfl Tryz.underlying126 Tryz.zeroValue126 rfl (.cons Tryz.sizeOf3 (.cons Tryz.sizeOf56 (.cons Tryz.sizeOf98 .nil))) ⟨⟨_, _, rfl, (by first | rfl | simp), (by first | decide | simp)⟩, ⟨⟨_, _, rfl, (by first | rfl | simp), (by first | decide | simp)⟩, ⟨⟨_, _, rfl, (by first | rfl | simp), (by first | decide | simp)⟩, trivial⟩⟩⟩ (by dsimp [fillL, splice, vcells] <;> rfl)) rfl ?_
        refine ncall rfl (lFramed (r := recL L.tail L.time s) ?hn74 ?ht74 ?fm74 ?fl74) rfl Tryz.call76 ztk rfl ?_
        case hn74 => exact rdV_in zin rfl rfl
        case ht74 => exact rdV_in zin rfl rfl
        case fm74 => exact hmay
        case fl74 => omega
        rintro v L' ⟨s36, rfl, ok36, rfl⟩; refine ⟨zge, ?_⟩
        rw [show framed (recB (recL L.tail L.time s)) = frL L.tail L.time s from rfl] at ok36 ⊢
        refine nnil ?_
        refine ycall (secWrite (bs := frL L.tail L.time s) ?ok75 ?rd75) rfl Tryz.call74 ztk rfl ?_
        case ok75 => exact hL.d
        case rd75 => exact rdB_sv zin ok36
        rintro v L' ⟨rfl, rfl⟩
        rw [hw]
        refine yas ?_
        refine hnoP' (kthn ?_)
        exact ksub zsub zge (hJr8 () trivial)
       ·skip
        refine na rfl (ac_bsliceR rfl Tryz.underlying98 Tryz.sizeOf9 Tryz.zeroValue9 rfl rfl rfl rfl ⟨⟨_, _, rfl, (by first | rfl | simp), (by first | decide | simp)⟩, trivial⟩ (by dsimp [fillL, splice, vcells, reps] <;> rfl)) rfl ?_
        rintro v L' ⟨b34, rfl, rfl⟩; refine ⟨zge, ?_⟩
        refine na rfl (ac_bsliceR rfl Tryz.underlying56 Tryz.sizeOf2 Tryz.zeroValue2 rfl rfl rfl rfl ⟨⟨_, _, rfl, (by first | rfl | simp), (by first | decide | simp)⟩, ⟨⟨_, _, rfl, (by first | rfl | simp), (by first | decide | simp)⟩, trivial⟩⟩ (by dsimp [fillL, splice, vcells, reps] <;> rfl)) rfl ?_
        rintro v L' ⟨b32, rfl, rfl⟩; refine ⟨zge, ?_⟩
        refine nz rfl (ev_build (zs := _) rfl Tryz.underlying126 Tryz.zeroValue126 rfl (.cons Tryz.sizeOf3 (.cons Tryz.sizeOf56 (.cons Tryz.sizeOf98 .nil))) ⟨⟨_, _, rfl, (by first | rfl | simp), (by first | decide | simp)⟩, ⟨⟨_, _, rfl, (by first | rfl | simp), (by first | decide | simp)⟩, ⟨⟨_, _, rfl, (by first | rfl | simp), (by first | decide | simp)⟩, trivial⟩⟩⟩ (by dsimp [fillL, splice, vcells] <;> rfl)) rfl ?_
        refine ncall rfl (lFramed (r := recL L.tail L.time s) ?hn80 ?ht80 ?fm80 ?fl80) rfl Tryz.call76 ztk rfl ?_
        case hn80 => exact rdV_in zin rfl rfl
        case ht80 => exact rdV_in zin rfl rfl
        case fm80 => exact hmay
        case fl80 => omega
        rintro v L' ⟨s36, rfl, ok36, rfl⟩; refine ⟨zge, ?_⟩
        rw [show framed (recB (recL L.tail L.time s)) = frL L.tail L.time s from rfl] at ok36 ⊢
        refine nnil ?_
        refine ycall (secWrite (bs := frL L.tail L.time s) ?ok81 ?rd81) rfl Tryz.call74 ztk rfl ?_
        case ok81 => exact hL.d
        case rd81 => exact rdB_sv zin ok36
        rintro v L' ⟨rfl, rfl⟩
        rw [hw]
        refine yas ?_
        refine hnoP' (kthn ?_)
        exact ksub zsub zge (hJr8 () trivial)
      ·skip
       refine na rfl (ac_bsliceR rfl Tryz.underlying98 Tryz.sizeOf9 Tryz.zeroValue9 rfl rfl rfl rfl ⟨⟨_, _, rfl, (by first | rfl | simp), (by first | decide | simp)⟩, trivial⟩ (by dsimp [fillL, splice, vcells, reps] <;> rfl)) rfl ?_
       rintro v L' ⟨b34, rfl, rfl⟩; refine ⟨zge, ?_⟩
       refine ncall rfl (lTail ?qz84 ?qa84 ?qb84 ?qc84) rfl Tryz.call56 ztk rfl ?_
       case qz84 => exact hs
       case qa84 => omega
       case qb84 => omega
       case qc84 => omega
       rintro v L' ⟨rfl, rfl⟩; refine ⟨zge, ?_⟩
       refine na rfl (ac_bsliceR rfl Tryz.underlying56 Tryz.sizeOf2 Tryz.zeroValue2 rfl rfl rfl rfl ⟨⟨_, _, rfl, (by first | rfl | simp), (by first | decide | simp)⟩, ⟨⟨_, _, rfl, (by first | rfl | simp), (by first | decide | simp)⟩, trivial⟩⟩ (by dsimp [fillL, splice, vcells, reps] <;> rfl)) rfl ?_
       rintro v L' ⟨b32, rfl, rfl⟩; refine ⟨zge, ?_⟩
       refine nz rfl (ev_build (zs := _) rfl Tryz.underlying126 Tryz.zeroValue126 rfl (.cons Tryz.sizeOf3 (.cons Tryz.sizeOf56 (.cons Tryz.sizeOf98 .nil))) ⟨⟨_, _, rfl, (by first | rfl | simp), (by first | decide | simp)⟩, ⟨⟨_, _, rfl, (by first | rfl | simp), (by first | decide | simp)⟩, ⟨⟨_, _, rfl, (by first | rfl | simp), (by first | decide | simp)⟩, trivial⟩⟩⟩ (by dsimp [fillL, splice, vcells] <;> rfl)) rfl ?_
       refine ncall rfl (lFramed (r := recL L.tail L.time s) ?hn87 ?ht87 ?fm87 ?fl87) rfl Tryz.call76 ztk rfl ?_
       case hn87 => exact rdV_in zin rfl rfl
       case ht87 => exact rdV_in zin rfl rfl
       case fm87 => exact hmay
       case fl87 => omega
       rintro v L' ⟨s36, rfl, ok36, rfl⟩; refine ⟨zge, ?_⟩
       rw [show framed (recB (recL L.tail L.time s)) = frL L.tail L.time s from rfl] at ok36 ⊢
       refine nnil ?_
       refine ycall (secWrite (bs := frL L.tail L.time s) ?ok88 ?rd88) rfl Tryz.call74 ztk rfl ?_
       case ok88 => exact hL.d
       case rd88 => exact rdB_sv zin ok36
       rintro v L' ⟨rfl, rfl⟩
       rw [hw]
       refine yas ?_
       refine hnoP' (kthn ?_)
       exact ksub zsub zge (hJr8 () trivial)
     ·skip
      refine na rfl (ac_bsliceR rfl Tryz.underlying98 Tryz.sizeOf9 Tryz.zeroValue9 rfl rfl rfl rfl ⟨⟨_, _, rfl, (by first | rfl | simp), (by first | decide | simp)⟩, trivial⟩ (by dsimp [fillL, splice, vcells, reps] <;> rfl)) rfl ?_
      rintro v L' ⟨b34, rfl, rfl⟩; refine ⟨zge, ?_⟩
      refine ncall rfl (lPlace ?pa91 ?pb91 ?pc91 ?pd91 ?pe91 ?pf91) rfl Tryz.call75 ztk rfl ?_
      case pa91 => omega
      case pb91 => omega
      case pc91 => exact hn2
      case pd91 => exact hn5
      case pe91 => exact hff.1
      case pf91 => exact hf5
      rintro v L' ⟨rfl, rfl⟩; refine ⟨zge, ?_⟩
      refine ncall rfl (lTail ?qz92 ?qa92 ?qb92 ?qc92) rfl Tryz.call56 ztk rfl ?_
      case qz92 => exact hs
      case qa92 => omega
      case qb92 => omega
      case qc92 => omega
      rintro v L' ⟨rfl, rfl⟩; refine ⟨zge, ?_⟩
      refine na rfl (ac_bsliceR rfl Tryz.underlying56 Tryz.sizeOf2 Tryz.zeroValue2 rfl rfl rfl rfl ⟨⟨_, _, rfl, (by first | rfl | simp), (by first | decide | simp)⟩, ⟨⟨_, _, rfl, (by first | rfl | simp), (by first | decide | simp)⟩, trivial⟩⟩ (by dsimp [fillL, splice, vcells, reps] <;> rfl)) rfl ?_
      rintro v L' ⟨b32, rfl, rfl⟩; refine ⟨zge, ?_⟩
      refine nz rfl (ev_build (zs := _) rfl Tryz.underlying126 Tryz.zeroValue126 rfl (.cons Tryz.sizeOf3 (.cons Tryz.sizeOf56 (.cons Tryz.sizeOf98 .nil))) ⟨⟨_, _, rfl, (by first | rfl | simp), (by first | decide | simp)⟩, ⟨⟨_, _, rfl, (by first | rfl | simp), (by first | decide | simp)⟩, ⟨⟨_, _, rfl, (by first | rfl | simp), (by first | decide | simp)⟩, trivial⟩⟩⟩ (by dsimp [fillL, splice, vcells] <;> rfl)) rfl ?_
      refine ncall rfl (lFramed (r := recL L.tail L.time s) ?hn95 ?ht95 ?fm95 ?fl95) rfl Tryz.call76 ztk rfl ?_
      case hn95 => exact rdV_in zin rfl rfl
      case ht95 => exact rdV_in zin rfl rfl
      case fm95 => exact hmay
      case fl95 => omega
      rintro v L' ⟨s36, rfl, ok36, rfl⟩; refine ⟨zge, ?_⟩
      rw [show framed (recB (recL L.tail L.time s)) = frL L.tail L.time s from rfl] at ok36 ⊢
      refine nnil ?_
      refine ycall (secWrite (bs := frL L.tail L.time s) ?ok96 ?rd96) rfl Tryz.call74 ztk rfl ?_
      case ok96 => exact hL.d
      case rd96 => exact rdB_sv zin ok36
      rintro v L' ⟨rfl, rfl⟩
      rw [hw]
      refine yas ?_
      refine hnoP' (kthn ?_)
      exact ksub zsub zge (hJr8 () trivial)
    ·skip
     refine na rfl (ac_bsliceR rfl Tryz.underlying98 Tryz.sizeOf9 Tryz.zeroValue9 rfl rfl rfl rfl ⟨⟨_, _, rfl, (by first | rfl | simp), (by first | decide | simp)⟩, trivial⟩ (by dsimp [fillL, splice, vcells, reps] <;> rfl)) rfl ?_
     rintro v L' ⟨b34, rfl, rfl⟩; refine ⟨zge, ?_⟩
     refine ncall rfl (lTail ?qz99 ?qa99 ?qb99 ?qc99) rfl Tryz.call56 ztk rfl ?_
     case qz99 => exact hs
     case qa99 => omega
     case qb99 => omega
     case qc99 => omega
     rintro v L' ⟨rfl, rfl⟩; refine ⟨zge, ?_⟩
     refine ncall rfl (lPlace ?pa100 ?pb100 ?pc100 ?pd100 ?pe100 ?pf100) rfl Tryz.call75 ztk rfl ?_
     case pa100 => omega
     case pb100 => omega
     case pc100 => exact hn2
     case pd100 => exact hn5
     case pe100 => exact hff.1
     case pf100 => exact hf5
     rintro v L' ⟨rfl, rfl⟩; refine ⟨zge, ?_⟩
     refine ncall rfl (lTail ?qz101 ?qa101 ?qb101 ?qc101) rfl Tryz.call56 ztk rfl ?_
     case qz101 => exact hs
     case qa101 => omega
     case qb101 => omega
     case qc101 => omega
     rintro v L' ⟨rfl, rfl⟩; refine ⟨zge, ?_⟩
     refine na rfl (ac_bsliceR rfl Tryz.underlying56 Tryz.sizeOf2 Tryz.zeroValue2 rfl rfl rfl rfl ⟨⟨_, _, rfl, (by first | rfl | simp), (by first | decide | simp)⟩, ⟨⟨_, _, rfl, (by first | rfl | simp), (by first | decide | simp)⟩, trivial⟩⟩ (by dsimp [fillL, splice, vcells, reps] <;> rfl)) rfl ?_
     rintro v L' ⟨b32, rfl, rfl⟩; refine ⟨zge, ?_⟩
     refine nz rfl (ev_build (zs := _) rfl Tryz.underlying126 Tryz.zeroValue126 rfl (.cons Tryz.sizeOf3 (.cons Tryz.sizeOf56 (.cons Tryz.sizeOf98 .nil))) ⟨⟨_, _, rfl, (by first | rfl | simp), (by first | decide | simp)⟩, ⟨⟨_, _, rfl, (by first | rfl | simp), (by first | decide | simp)⟩, ⟨⟨_, _, rfl, (by first | rfl | simp), (by first | decide | simp)⟩, trivial⟩⟩⟩ (by dsimp [fillL, splice, vcells] <;> rfl)) rfl ?_
     refine ncall rfl (lFramed (r := recL L.tail L.time s) ?hn104 ?ht104 ?fm104 ?fl104) rfl Tryz.call76 ztk rfl ?_
     case hn104 => exact rdV_in zin rfl rfl
     case ht104 => exact rdV_in zin rfl rfl
     case fm104 => exact hmay
     case fl104 => omega
     rintro v L' ⟨s36, rfl, ok36, rfl⟩; refine ⟨zge, ?_⟩
     rw [show framed (recB (recL L.tail L.time s)) = frL L.tail L.time s from rfl] at ok36 ⊢
     refine nnil ?_
     refine ycall (secWrite (bs := frL L.tail L.time s) ?ok105 ?rd105) rfl Tryz.call74 ztk rfl ?_
     case ok105 => exact hL.d
     case rd105 => exact rdB_sv zin ok36
     rintro v L' ⟨rfl, rfl⟩
     rw [hw]
     refine yas ?_
     refine hnoP' (kthn ?_)
     exact ksub zsub zge (hJr8 () trivial)
end W
end Go.Proofs
