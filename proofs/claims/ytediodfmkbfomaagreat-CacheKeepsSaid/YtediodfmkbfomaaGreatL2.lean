/- A part of the proof: contracts and plain lemmas, each without conditions beyond those that it names. -/
import Derived.Test.YtediodfmkbfomaaGreatL1
set_option linter.unusedVariables false
set_option linter.unusedSimpArgs false
set_option linter.constructorNameAsVariable false
namespace Go.Proofs
open Go Go.Sl
namespace W
set_option linter.unusedVariables false
def logP (l c : Nat) (q : Q3) (sl : Sv) (L : LogM) : Seg := sc l [dp q, i64 L.first, i64 L.n, ptr c, i64 L.head, i64 L.time, i64 L.least, svVal sl L.l.length] 124
def itS (sl : Sv) (L : LogM) : Seg := svSeg sl 132 (itemsV L.l)
abbrev itOk (sl : Sv) (L : LogM) : Prop := svOk sl L.l.length 2 (itemsV L.l)
theorem lPlace [Env] {R : List Seg} {l c : Nat} {q : Q3} {sl : Sv} {L : LogM} {k : Int} (h1 : 0 ≤ k) (h2 : k ≤ 4611686018427388416) (hn : 2 ≤ L.n) (hn2 : L.n ≤ 512) (hf : 0 ≤ L.first) (hf2 : L.first ≤ 512) :
   Con Tryz.prog 75 [ptr l, i64 k] [logP l c q sl L] R (Is (i64 (L.place k)) [logP l c q sl L]) := by
 have hm := Int.emod_nonneg k (show (L.n : Int) ≠ 0 by omega)
 have hm2 := Int.emod_lt_of_pos k (show (0 : Int) < L.n by omega)
 have htm : k.tmod L.n = k % L.n := Int.tmod_eq_emod_of_nonneg h1
 have hpl : L.place k = L.first + k % L.n := rfl
 unfold logP
 refine con_enter Tryz.func75 Tryz.ntmps75 rfl rfl ?_
 refine cseq ?_; intro K1 hK1
 refine creg ?_
 refine yas ?_
 refine ynil' (kthn (hK1 _ _ ?_))
 clear hK1
 refine cseq ?_; intro K2 hK2
 refine cdraw 11 [(0, true), (1, true), (2, true), (3, true), (4, true), (5, true), (6, true), (7, true), (8, true), (9, true), (10, true)] (_) Tryz.mixed (by kernel_rfl) .refl ?_
 refine hr rfl (ev_move rfl) rfl ?_
 refine hr rfl (ev_nil rfl) rfl ?_
 refine hr rfl (ev_fieldAddr 1 rfl Tryz.underlying124 rfl Tryz.sizeOf3) rfl ?_
 refine hr rfl (ev_load rfl Tryz.isAgg3 zin rfl) rfl ?_
 refine hr rfl (ev_move rfl) rfl ?_
 refine hr rfl (ev_move rfl) rfl ?_
 refine hr rfl (ev_nil rfl) rfl ?_
 refine hr rfl (ev_fieldAddr 2 rfl Tryz.underlying124 rfl Tryz.sizeOf3) rfl ?_
 refine hr rfl (ev_load rfl Tryz.isAgg3 zin rfl) rfl ?_
 refine hr rfl (ev_rem (p := k) (q := (L.n : Int)) rfl rfl (by omega)) rfl ?_
 rw [htm]
 refine hr rfl (ev_add rfl rfl) rfl ?_
 rw [show IntKind.i64.wrap (L.first + k % (L.n : Int)) = L.place k by rw [hpl, wr (by omega) (by omega)]]
 refine hnil ?_
 refine yas ?_
 refine hnoP' (kthn (hK2 _ _ ?_))
 clear hK2
 refine cret ?_
 first
   | (exfalso; omega; done)
   | (refine kretv Tryz.results75 rfl (L1 := [sc l _ 124] ++ R) zge ?_
      exact ⟨_, ⟨rfl, rfl⟩, rfl⟩)
theorem lTail [Env] {R : List Seg} {l c : Nat} {q : Q3} {sl : Sv} {L : LogM} (hs : itOk sl L) (h1 : 0 ≤ L.head) (h2 : L.tail ≤ 4611686018427388416) (hl : L.l.length ≤ 512) : Con Tryz.prog 56 [ptr l] [logP l c q sl L] R (Is (i64 L.tail) [logP l c q sl L]) := by
 have htl : L.tail = L.head + L.l.length := rfl
 unfold logP
 refine con_enter Tryz.func56 Tryz.ntmps56 rfl rfl ?_
 refine cseq ?_; intro K1 hK1
 refine creg ?_
 refine yas ?_
 refine ynil' (kthn (hK1 _ _ ?_))
 clear hK1
 refine cseq ?_; intro K2 hK2
 refine cdraw 10 [(0, true), (1, true), (2, true), (3, true), (4, true), (5, true), (6, true), (7, true), (8, true), (9, true)] (_) Tryz.mixed (by kernel_rfl) .refl ?_
 refine hr rfl (ev_move rfl) rfl ?_
 refine hr rfl (ev_nil rfl) rfl ?_
 refine hr rfl (ev_fieldAddr 4 rfl Tryz.underlying124 rfl Tryz.sizeOf2) rfl ?_
 refine hr rfl (ev_load rfl Tryz.isAgg2 zin rfl) rfl ?_
 refine hr rfl (ev_move rfl) rfl ?_
 refine hr rfl (ev_nil rfl) rfl ?_
 refine hr rfl (ev_fieldAddr 7 rfl Tryz.underlying124 rfl Tryz.sizeOf122) rfl ?_
 refine hr rfl (ev_load rfl Tryz.isAgg122 zin rfl) rfl ?_
 refine hr rfl (ev_lenSv rfl Tryz.underlying122 hs) rfl ?_
 refine hr rfl (ev_add rfl rfl) rfl ?_
 refine hnil ?_
 refine yas ?_
 refine hnoP' (kthn (hK2 _ _ ?_))
 clear hK2
 refine cret ?_
 first
   | (exfalso; omega; done)
   | (refine kretv Tryz.results56 rfl (L1 := [sc l _ 124] ++ R) zge ?_
      exact ⟨_, ⟨by rw [htl, wr (by omega) (by omega)], rfl⟩, rfl⟩)
theorem lFree [Env] {R : List Seg} {l c : Nat} {q : Q3} {sl : Sv} {L : LogM} (hs : itOk sl L) (h1 : L.n ≤ 512) (hl : L.l.length ≤ 512) : Con Tryz.prog 71 [ptr l] [logP l c q sl L] R (Is (i64 ((L.n : Int) - L.l.length)) [logP l c q sl L]) := by
 unfold logP
 refine con_enter Tryz.func71 Tryz.ntmps71 rfl rfl ?_
 refine cseq ?_; intro K1 hK1
 refine creg ?_
 refine yas ?_
 refine ynil' (kthn (hK1 _ _ ?_))
 clear hK1
 refine cseq ?_; intro K2 hK2
 refine cdraw 10 [(0, true), (1, true), (2, true), (3, true), (4, true), (5, true), (6, true), (7, true), (8, true), (9, true)] (_) Tryz.mixed (by kernel_rfl) .refl ?_
 refine hr rfl (ev_move rfl) rfl ?_
 refine hr rfl (ev_nil rfl) rfl ?_
 refine hr rfl (ev_fieldAddr 2 rfl Tryz.underlying124 rfl Tryz.sizeOf3) rfl ?_
 refine hr rfl (ev_load rfl Tryz.isAgg3 zin rfl) rfl ?_
 refine hr rfl (ev_move rfl) rfl ?_
 refine hr rfl (ev_nil rfl) rfl ?_
 refine hr rfl (ev_fieldAddr 7 rfl Tryz.underlying124 rfl Tryz.sizeOf122) rfl ?_
 refine hr rfl (ev_load rfl Tryz.isAgg122 zin rfl) rfl ?_
 refine hr rfl (ev_lenSv rfl Tryz.underlying122 hs) rfl ?_
 refine hr rfl (ev_sub rfl rfl) rfl ?_
 refine hnil ?_
 refine yas ?_
 refine hnoP' (kthn (hK2 _ _ ?_))
 clear hK2
 refine cret ?_
 first
   | (exfalso; omega; done)
   | (refine kretv Tryz.results71 rfl (L1 := [sc l _ 124] ++ R) zge ?_
      exact ⟨_, ⟨by rw [wr (by omega) (by omega)], rfl⟩, rfl⟩)
theorem lHead [Env] {R : List Seg} {l c : Nat} {q : Q3} {sl : Sv} {L : LogM} : Con Tryz.prog 50 [ptr l] [logP l c q sl L] R (Is (i64 L.head) [logP l c q sl L]) := by
 unfold logP
 refine con_enter Tryz.func50 Tryz.ntmps50 rfl rfl ?_
 refine cseq ?_; intro K1 hK1
 refine creg ?_
 refine yas ?_
 refine ynil' (kthn (hK1 _ _ ?_))
 clear hK1
 refine cseq ?_; intro K2 hK2
 refine creg ?_
 refine ymv ?_
 refine yni ?_
 refine y (ev_fieldAddr 4 rfl Tryz.underlying124 rfl Tryz.sizeOf2) rfl ?_
 refine y (ev_load rfl Tryz.isAgg2 zin rfl) rfl ?_
 refine yas ?_
 refine ynil' (kthn (hK2 _ _ ?_))
 clear hK2
 refine cret ?_
 first
   | (exfalso; omega; done)
   | (refine kretv Tryz.results50 rfl (L1 := _) zge ?_
      exact ⟨_, ⟨by first | rfl | (simp [*]; done) | (simp [*]; omega) | simp_all, rfl⟩, by first | rfl | (simp [*]; done) | (simp [*]; omega) | simp_all⟩)
theorem lSync [Env] {R : List Seg} {l c : Nat} {q : Q3} {sl : Sv} {L : LogM} {D : Dev} (hD : D.ok) : Con Tryz.prog 54 [ptr l] [logP l c q sl L, dev q D] R (Is (i64 D.barrier.1) [logP l c q sl L, dev q D.barrier.2]) := by
 unfold logP
 refine con_enter Tryz.func54 Tryz.ntmps54 rfl rfl ?_
 refine cseq ?_; intro K1 hK1
 refine creg ?_
 refine yas ?_
 refine ynil' (kthn (hK1 _ _ ?_))
 clear hK1
 refine cseq ?_; intro K2 hK2
 refine creg ?_
 refine ymv ?_
 refine yni ?_
 refine y (ev_fieldAddr 0 rfl Tryz.underlying124 rfl Tryz.sizeOf25) rfl ?_
 refine y (ev_load rfl Tryz.isAgg25 zin rfl) rfl ?_
 refine ycall (secBarrier ?ok49) rfl Tryz.call70 ztk rfl ?_
 case ok49 => exact hD
 rintro v L' ⟨rfl, rfl⟩
 refine yas ?_
 refine ynil' (kthn (hK2 _ _ ?_))
 clear hK2
 refine cret ?_
 first
   | (exfalso; omega; done)
   | (refine kretv Tryz.results54 rfl (L1 := [sc l _ 124, dev q D.barrier.2] ++ R) zge ?_
      exact ⟨_, ⟨rfl, rfl⟩, rfl⟩)
theorem lPut [Env] {R : List Seg} {l c : Nat} {q : Q3} {sl : Sv} {L : LogM} {D : Dev} {head least : Int} (hL : L.ok D) (hh : 0 ≤ head ∧ head ≤ 4611686018427388416) (hle : 0 ≤ least ∧ least ≤ 4611686018427387904) :
   Con Tryz.prog 65 [ptr l, i64 head, i64 least] [logP l c q sl L, celP c q L.c, dev q D] R (Is (i64 (L.put D head least).1) [logP l c q sl L, celP c q (L.put D head least).2.1.c, dev q (L.put D head least).2.2]) := by
 have htm := hL.time
 have hmay : (headR head L.time least).may := headR_may hh ⟨by omega, by omega⟩ ⟨by omega, by omega⟩
 have henc := enc_may hmay
 have hlen := headR_len (h := head) (t := L.time) (l := least) hh ⟨by omega, by omega⟩ ⟨by omega, by omega⟩
 have hput : L.put D head least = ((L.c.put D (recB (headR head L.time least))).1, { L with c := (L.c.put D (recB (headR head L.time least))).2.1 }, (L.c.put D (recB (headR head L.time least))).2.2) := rfl
 refine con_enter Tryz.func65 Tryz.ntmps65 rfl rfl ?_
 unfold logP
 refine cseq ?_; intro K1 hK1
 refine creg ?_
 refine yas ?_
 refine ynil' (kthn (hK1 _ _ ?_))
 clear hK1
 refine cseq ?_; intro K2 hK2
 refine creg ?_
 refine ymv ?_
 refine ymv ?_
 refine yni ?_
 refine y (ev_fieldAddr 5 rfl Tryz.underlying124 rfl Tryz.sizeOf2) rfl ?_
 refine y (ev_load rfl Tryz.isAgg2 zin rfl) rfl ?_
 refine ymv ?_
 refine ya (ac_bsliceR rfl Tryz.underlying56 Tryz.sizeOf2 Tryz.zeroValue2 rfl rfl rfl rfl ⟨⟨_, _, rfl, (by first | rfl | simp), (by first | decide | simp)⟩, ⟨⟨_, _, rfl, (by first | rfl | simp), (by first | decide | simp)⟩, ⟨⟨_, _, rfl, (by first | rfl | simp), (by first | decide | simp)⟩, trivial⟩⟩⟩ (by dsimp [fillL, splice, vcells, reps] <;> rfl)) rfl ?_
 rintro v L' ⟨b16, rfl, rfl⟩
 refine y (ev_build (zs := _) rfl Tryz.underlying126 Tryz.zeroValue126 rfl (.cons Tryz.sizeOf3 (.cons Tryz.sizeOf56 (.cons Tryz.sizeOf98 .nil))) ⟨⟨_, _, rfl, (by first | rfl | simp), (by first | decide | simp)⟩, ⟨⟨_, _, rfl, (by first | rfl | simp), (by first | decide | simp)⟩, trivial⟩⟩ (by dsimp [fillL, splice, vcells] <;> rfl)) rfl ?_
 refine ycall (cEncode (r := headR head L.time least) ?hn60 ?ht60 ?sx60) rfl Tryz.call77 ztk rfl ?_
 case hn60 => exact rdV_in zin rfl rfl
 case ht60 => exact rdV_nil
 case sx60 => exact hmay.num
 rintro v L' ⟨s18, rfl, ok18, rfl⟩
 rw [henc] at ok18 ⊢; dsimp only at ok18 ⊢
 generalize recB (headR head L.time least) = rb at *
 refine ymv ?_
 refine yxt ?_
 refine yxt ?_
 refine yas ?_
 refine yas ?_
 refine ynil' (kthn (hK2 _ _ ?_))
 clear hK2
 refine cseq ?_; intro K3 hK3
 refine cdraw 6 [(0, true), (1, true), (2, true), (3, true), (4, true), (5, true)] ([sc l _ 124, svSeg s18 5 (bytesV rb)] ++ R) Tryz.mixed (by kernel_rfl) zge ?_
 refine hr rfl (ev_move rfl) rfl ?_
 refine hr rfl (ev_nil rfl) rfl ?_
 refine hr rfl (ev_fieldAddr 3 rfl Tryz.underlying124 rfl Tryz.sizeOf119) rfl ?_
 refine hr rfl (ev_load rfl Tryz.isAgg119 zin rfl) rfl ?_
 refine hr rfl (ev_move rfl) rfl ?_
 refine hr rfl (ev_toStrB (rdY_sv (L := [svSeg s18 5 (bytesV rb)]) .z ok18).rd.bytes zge rfl Tryz.underlying22 Tryz.underlying9 Tryz.underlying5) rfl ?_
 refine hnil ?_
 refine ycall (cPut ?cok72 ?ok72) rfl Tryz.call84 ztk rfl ?_
 case cok72 => exact hL.c
 case ok72 => exact hL.d
 rintro v L' ⟨rfl, rfl⟩
 refine yas ?_
 refine hnoP' (kthn (hK3 _ _ ?_))
 clear hK3
 refine cret ?_
 first
   | (exfalso; omega; done)
   | (refine kretv Tryz.results65 rfl (L1 := [sc l _ 124, celP c q _, dev q _] ++ R) zge ?_
      rw [hput]; exact ⟨_, ⟨rfl, rfl⟩, rfl⟩)
theorem lRecords [Env] {R : List Seg} {l c : Nat} {q : Q3} {sl : Sv} {L : LogM} (hok : itOk sl L) (hl : L.l.length ≤ 512) :
   Con Tryz.prog 47 [ptr l] [logP l c q sl L, itS sl L] R (KSv 9 (L.l.map (·.1)).length 1 (strsV (L.l.map (·.1))) [logP l c q sl L, itS sl L]) := by
 have hrd : RdV [itS sl L] (svVal sl L.l.length) L.l.length (itemsV L.l) := rdV_sv .z hok
 unfold logP
 refine con_enter Tryz.func47 Tryz.ntmps47 rfl rfl ?_
 refine cseq ?_; intro K1 hK1
 refine creg ?_
 refine yas ?_
 refine ynil' (kthn (hK1 _ _ ?_))
 clear hK1
 refine cseq ?_; intro K2 hK2
 refine creg ?_
 refine yas ?_
 refine ynil' (kthn (hK2 _ _ ?_))
 clear hK2
 refine cseq ?_; intro K3 hK3
 refine cseq ?_; intro K4 hK4
 refine creg ?_
 refine ymv ?_
 refine yni ?_
 refine y (ev_fieldAddr 7 rfl Tryz.underlying124 rfl Tryz.sizeOf122) rfl ?_
 refine y (ev_load rfl Tryz.isAgg122 zin rfl) rfl ?_
 refine y (ev_lenSv rfl Tryz.underlying122 hok) rfl ?_
 refine ymv ?_
 refine yreP (L' := [sc l [dp q, i64 L.first, i64 L.n, ptr c, i64 L.head, i64 L.time, i64 L.least, svVal sl L.l.length] 124, itS sl L, svSeg none 9 (strsV ((L.l.take 0).map (·.1)))] ++ R) (by simp [svSeg]) ?_
 refine ynil' (kthn (hK4 _ _ ?_))
 clear hK4
 have hJ1 : ∀ x : Nat × Sv, ((x.1 ≤ L.l.length ∧ svOk x.2 ((L.l.take x.1).map (·.1)).length 1 (strsV ((L.l.take x.1).map (·.1)))) ∧ (x.1 = L.l.length)) → Sk 22 K3 ([(11, i64 x.1), (10, i64 L.l.length), (9, svVal sl L.l.length), (3, svVal x.2 ((L.l.take x.1).map (·.1)).length), (0, ptr l)]) ([sc l [dp q, i64 L.first, i64 L.n, ptr c, i64 L.head, i64 L.time, i64 L.least, svVal sl L.l.length] 124, itS sl L, svSeg x.2 9 (strsV ((L.l.take x.1).map (·.1)))] ++ R) := by
  rintro ⟨k, s⟩ ⟨hI1, hX1⟩
  refine hK3 _ _ ?_
  obtain ⟨hk, ok⟩ := hI1; dsimp only at hk ok ⊢
  dsimp only at hX1; subst hX1; rw [List.take_length] at ok ⊢
  refine cseq ?_; intro K5 hK5
  refine creg ?_
  refine ymv ?_
  refine yas ?_
  refine ynil' (kthn (hK5 _ _ ?_))
  clear hK5
  refine cret ?_
  first
    | (exfalso; omega; done)
    | (refine kretv Tryz.results47 rfl (L1 := [svSeg s 9 _, sc l _ 124, itS sl L] ++ R) zge ?_
       exact ⟨_, ⟨s, rfl, ok, rfl⟩, rfl⟩)
 clear hK3
 refine cblock ?_
 refine cloop (A := Nat × Sv) (fun x => [(11, i64 x.1), (10, i64 L.l.length), (9, svVal sl L.l.length), (3, svVal x.2 ((L.l.take x.1).map (·.1)).length), (0, ptr l)]) (fun x => [sc l [dp q, i64 L.first, i64 L.n, ptr c, i64 L.head, i64 L.time, i64 L.least, svVal sl L.l.length] 124, itS sl L, svSeg x.2 9 (strsV ((L.l.take x.1).map (·.1)))] ++ R) (fun x => x.1 ≤ L.l.length ∧ svOk x.2 ((L.l.take x.1).map (·.1)).length 1 (strsV ((L.l.take x.1).map (·.1)))) (fun x => L.l.length - x.1) ((0, none)) ?_ zsub zge ?_
 · exact ⟨Nat.zero_le _, rfl, rfl⟩
 rintro ⟨k, s⟩ hI1 KL1 hL1
 have hI1o := hI1
 obtain ⟨hk, ok⟩ := hI1; dsimp only at hk ok ⊢
 refine cseq ?_; intro K6 hK6
 refine creg ?_
 refine y (ev_lss rfl rfl) rfl ?_
 refine ynil' (kthn (hK6 _ _ ?_))
 clear hK6
 refine cseq ?_; intro K7 hK7
 refine ccond rfl (fun h85 => ?_) (fun h85 => ?_)
 ·(try simp only [sH] at h85)
  obtain ⟨x, hx⟩ : ∃ y, L.l[k]? = some y := ⟨_, List.getElem?_eq_getElem (by omega)⟩
  have hsu : (L.l.take (k + 1)).map (·.1) = (L.l.take k).map (·.1) ++ [x.1] := by rw [take_snoc hx]; simp
  have hlk : ((L.l.take k).map (·.1)).length = k := by simp; omega
  refine cskip' (kthn (hK7 _ _ ?_))
  clear hK7
  refine cseq ?_; intro K8 hK8
  refine cblock ?_
  refine cseq ?_; intro K9 hK9
  refine creg ?_
  refine y (ev_ixV hrd rfl rfl Tryz.underlying122 Tryz.sizeOf132 (by omega) (by omega)) rfl ?_
  refine y (ev_loadNV (k * 2) hrd zge rfl Tryz.isAgg132 Tryz.sizeOf132 (by simp) (item_two hx) rfl) rfl ?_
  refine ya (ac_alloc Tryz.zeroValue132 rfl) rfl ?_
  rintro v L' ⟨b5, rfl, rfl⟩
  refine ya0 (ac_storeAll rfl rfl (by first | exact bytesV_one _ | (simp [Value.oneCell']; done) | (simp only [List.forall_mem_cons, List.not_mem_nil, false_implies, implies_true, svVal_one, and_true, true_and, and_self]; first | done | simp [Value.oneCell'])) Tryz.sizeOf132 zrp (by first | rfl | assumption | (simp [*]; done) | (simp [*]; omega)) (by first | rfl | assumption | (simp [*]; done) | (simp [*]; omega))) ?_
  rintro v L' ⟨rfl, rfl⟩
  refine ynil' (kthn (hK9 _ _ ?_))
  clear hK9
  refine creg ?_
  refine ymv ?_
  refine y (ev_fieldAddr 0 rfl Tryz.underlying132 rfl Tryz.sizeOf9) rfl ?_
  refine y (ev_load rfl Tryz.isAgg9 zin rfl) rfl ?_
  refine ya (ac_bsliceR rfl Tryz.underlying98 Tryz.sizeOf9 Tryz.zeroValue9 rfl rfl rfl rfl ⟨⟨_, _, rfl, (by first | rfl | simp), (by first | decide | simp)⟩, trivial⟩ (by dsimp [fillL, splice, vcells, reps] <;> rfl)) rfl ?_
  rintro v L' ⟨b18, rfl, rfl⟩
  refine ya (ac_append (s := s) (xs := strsV ((L.l.take k).map (·.1))) (m := ((L.l.take k).map (·.1)).length) (k := 1) (us := [str x.1]) (size := 1) rfl rfl (by repeat first | exact .z | apply Pk.s) Tryz.underlying98 Tryz.underlying98 (by intro q hq; cases hq) Tryz.typeInfo9 rfl rfl rfl ?ok94 ?src94 ?one94 ?big94) rfl ?_
  case ok94 => exact ok
  case src94 => exact src_at zin rfl rfl
  case one94 => intro u hu; simp at hu; subst hu; rfl
  case big94 => show (_ + _) * 17 ≤ _; omega
  rintro v L' ⟨s19, rfl, ok19, rfl⟩
  rw [show strsV ((L.l.take k).map (·.1)) ++ [str x.1] = strsV ((L.l.take (k + 1)).map (·.1)) by rw [hsu]; simp [strsV], show ((L.l.take k).map (·.1)).length + 1 = ((L.l.take (k + 1)).map (·.1)).length by rw [hsu]; simp] at ok19 ⊢
  refine yas ?_
  refine ynil' (kbn (kthn (hK8 _ _ ?_)))
  clear hK8
  refine creg ?_
  refine y (ev_add rfl rfl) rfl ?_
  rw [show IntKind.i64.wrap ((k:Int) + 1) = ((k+1 : Nat) : Int) by rw [wr (by omega) (by omega)]; rfl]
  refine ymv ?_
  refine ynil' (kthn ?_)
  exact hL1 ((k + 1, s19)) (⟨by dsimp only; omega, ok19⟩) (by dsimp only; omega) _ _ zsub zge
 ·(try simp only [sH] at h85)
  refine cexit (kthx (kthx (kbx (kthn ?_))))
  exact ksub zsub zge (hJ1 ⟨k, s⟩ ⟨hI1o, by first | trivial | omega⟩)
end W
end Go.Proofs
