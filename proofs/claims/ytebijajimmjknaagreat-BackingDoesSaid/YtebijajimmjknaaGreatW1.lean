/- A part of the proof: contracts and plain lemmas, each without conditions beyond those that it names. -/
import Derived.Test.YtebijajimmjknaaGreatT10
import Derived.Test.YtebijajimmjknaaGreatGH
set_option linter.unusedVariables false
set_option linter.unusedSimpArgs false
set_option linter.constructorNameAsVariable false
namespace Go.Proofs
open Go Go.Sl
namespace W
set_option linter.unusedVariables false
theorem mAll [Env] {R : List Seg} {v : Value} {l : List Wi} (hv : RdV R v l.length (wisV l)) (hl : l.length ≤ 1000) : Con Tryz.prog 78 [v] [] R (Is (.bool (l.all wiOk)) []) := by
 have hvl := hv.lenVal
 refine con_enter Tryz.func78 Tryz.ntmps78 rfl rfl ?_
 refine cseq ?_; intro K1 hK1
 refine creg ?_
 refine yas ?_
 refine ynil' (kthn (hK1 _ _ ?_))
 clear hK1
 refine cseq ?_; intro K2 hK2
 refine cseq ?_; intro K3 hK3
 refine creg ?_
 refine ymv ?_
 first
   | refine y (ev_len rfl Tryz.underlying181) rfl ?_
   | refine y (ev_lenSv rfl Tryz.underlying181 (by assumption)) rfl ?_
   | refine y (ev_lenV rfl Tryz.underlying181 (RdV.lenVal (by assumption))) rfl ?_
   | refine y (ev_lenV rfl Tryz.underlying181 (RdB.lenVal (by assumption))) rfl ?_
 refine ymv ?_
 refine ynil' (kthn (hK3 _ _ ?_))
 clear hK3
 have hJ1 : ∀ x : Nat, ((x ≤ l.length ∧ (l.take x).all wiOk = true) ∧ (x = l.length)) → Sk 24 K2 ([(7, i64 x), (6, i64 l.length), (5, v)]) (R) := by
  rintro k ⟨hI1, hX1⟩
  refine hK2 _ _ ?_
  obtain ⟨hk, hok⟩ := hI1
  subst hX1; rw [List.take_length] at hok
  refine cseq ?_; intro K4 hK4
  refine creg ?_
  refine yas ?_
  refine ynil' (kthn (hK4 _ _ ?_))
  clear hK4
  refine cret ?_
  first
    | (exfalso; omega; done)
    | (refine kretv Tryz.results78 rfl (L1 := R) zge ?_
       exact ⟨_, ⟨by first | rfl | rw [hno] | rw [hok], rfl⟩, by first | rfl | rw [hno] | rw [hok]⟩)
 clear hK2
 refine cblock ?_
 refine cloop (A := Nat) (fun x => [(7, i64 x), (6, i64 l.length), (5, v)]) (fun x => R) (fun x => x ≤ l.length ∧ (l.take x).all wiOk = true) (fun x => l.length - x) (0) ?_ zsub zge ?_
 · exact ⟨Nat.zero_le _, by simp⟩
 rintro k hI1 KL1 hL1
 have hI1o := hI1
 obtain ⟨hk, hok⟩ := hI1
 refine cseq ?_; intro K5 hK5
 refine creg ?_
 refine y (ev_lss rfl rfl) rfl ?_
 refine ynil' (kthn (hK5 _ _ ?_))
 clear hK5
 refine cseq ?_; intro K6 hK6
 refine ccond rfl (fun h7 => ?_) (fun h7 => ?_)
 ·(try simp only [sH] at h7)
  obtain ⟨x, hx⟩ : ∃ x, l[k]? = some x := ⟨_, List.getElem?_eq_getElem (by omega)⟩
  refine cskip' (kthn (hK6 _ _ ?_))
  clear hK6
  refine cseq ?_; intro K7 hK7
  refine cblock ?_
  refine cseq ?_; intro K8 hK8
  refine creg ?_
  refine y (ev_ixV hv rfl rfl Tryz.underlying181 Tryz.sizeOf161 (by omega) (by omega)) rfl ?_
  refine y (ev_loadNV (us := [i64 x.1, i64 x.2.1, i64 x.2.2]) (k * 3) hv zge rfl Tryz.isAgg161 Tryz.sizeOf161 (by simp) (wisV_get _ _ _ hx) rfl) rfl ?_
  refine ya (ac_alloc Tryz.zeroValue161 rfl) rfl ?_
  rintro v L' ⟨b4, rfl, rfl⟩
  refine ya0 (ac_storeAll rfl rfl (by first | exact bytesV_one _ | (simp [Value.oneCell']; done) | (simp only [List.forall_mem_cons, List.not_mem_nil, false_implies, implies_true, svVal_one, and_true, true_and, and_self]; first | done | simp [Value.oneCell'])) Tryz.sizeOf161 zrp (by first | rfl | assumption | (simp [*]; done) | (simp [*]; omega)) (by first | rfl | assumption | (simp [*]; done) | (simp [*]; omega))) ?_
  rintro v L' ⟨rfl, rfl⟩
  refine ynil' (kthn (hK8 _ _ ?_))
  clear hK8
  refine cseq ?_; intro K9 hK9
  refine creg ?_
  refine y (ev_fieldAddr 0 rfl Tryz.underlying161 rfl Tryz.sizeOf2) rfl ?_
  refine y (ev_load rfl Tryz.isAgg2 zin rfl) rfl ?_
  refine y (ev_fieldAddr 1 rfl Tryz.underlying161 rfl Tryz.sizeOf2) rfl ?_
  refine y (ev_load rfl Tryz.isAgg2 zin rfl) rfl ?_
  refine y (ev_lss rfl rfl) rfl ?_
  refine ymv ?_
  refine ysplit 16 rfl (fun h18 => ?_) (fun h18 => ?_)
  ·(try simp only [sH] at h18)
   refine ygz ?_
   refine ygz ?_
   refine ygz ?_
   refine ygz ?_
   refine ygz ?_
   refine ypa ?_
   refine ynil' (kthn (hK9 _ _ ?_))
   clear hK9
   refine ccond1 rfl ?_
   refine cseq ?_; intro K10 hK10
   refine creg ?_
   have hno : l.all wiOk = false := List.all_eq_false.2 ⟨x, List.mem_of_getElem? hx, by simp [wiOk, within3]; omega⟩
   refine yas ?_
   refine ynil' (kthn (hK10 _ _ ?_))
   clear hK10
   refine cret (kbr (kthr (kthr (kbr (kthr ?_)))))
   first
     | (exfalso; omega; done)
     | (refine kretv Tryz.results78 rfl (L1 := R) zge ?_
        exact ⟨_, ⟨by first | rfl | rw [hno] | rw [hok], rfl⟩, by first | rfl | rw [hno] | rw [hok]⟩)
  ·(try simp only [sH] at h18)
   refine ygo ?_
   refine y (ev_fieldAddr 0 rfl Tryz.underlying161 rfl Tryz.sizeOf2) rfl ?_
   refine ygo ?_
   refine y (ev_load rfl Tryz.isAgg2 zin rfl) rfl ?_
   refine ygo ?_
   refine y (ev_fieldAddr 2 rfl Tryz.underlying161 rfl Tryz.sizeOf2) rfl ?_
   refine ygo ?_
   refine y (ev_load rfl Tryz.isAgg2 zin rfl) rfl ?_
   refine ygo ?_
   refine y (ev_gtr rfl rfl) rfl ?_
   refine ypb ?_
   refine ynil' (kthn (hK9 _ _ ?_))
   clear hK9
   refine ccond rfl (fun h27 => ?_) (fun h27 => ?_)
   ·(try simp only [sH] at h27)
    refine cseq ?_; intro K11 hK11
    refine creg ?_
    have hno : l.all wiOk = false := List.all_eq_false.2 ⟨x, List.mem_of_getElem? hx, by simp [wiOk, within3]; omega⟩
    refine yas ?_
    refine ynil' (kthn (hK11 _ _ ?_))
    clear hK11
    refine cret (kbr (kthr (kthr (kbr (kthr ?_)))))
    first
      | (exfalso; omega; done)
      | (refine kretv Tryz.results78 rfl (L1 := R) zge ?_
         exact ⟨_, ⟨by first | rfl | rw [hno] | rw [hok], rfl⟩, by first | rfl | rw [hno] | rw [hok]⟩)
   ·(try simp only [sH] at h27)
    refine cskip' (kbn (kthn (hK7 _ _ ?_)))
    clear hK7
    refine creg ?_
    have hok2 : (l.take (k + 1)).all wiOk = true := by rw [take_snoc hx, List.all_append, hok]; simp [wiOk, within3]; omega
    refine y (ev_add rfl rfl) rfl ?_
    rw [show IntKind.i64.wrap ((k:Int) + 1) = ((k+1 : Nat) : Int) by rw [wr (by omega) (by omega)]; rfl]
    refine ymv ?_
    refine ynil' (kthn ?_)
    exact hL1 (k + 1) (⟨by omega, hok2⟩) (by omega) _ _ zsub zge
 ·(try simp only [sH] at h7)
  refine cexit (kthx (kthx (kbx (kthn ?_))))
  exact ksub zsub zge (hJ1 k ⟨hI1o, by first | trivial | omega⟩)
def may4 (m : MsgM) (k : Nat) : Bool := (List.range k).all fun z => within3 (m.tn z) 0 4611686018427387904
theorem mMay [Env] {R : List Seg} {m : MsgM} : Con Tryz.prog 46 [.agg m.cells.toArray] [] R (Is (.bool m.may) []) := by
 refine con_enter Tryz.func46 Tryz.ntmps46 rfl rfl ?_
 refine cseq ?_; intro K1 hK1
 refine creg ?_
 refine ya (ac_box (vs := m.cells) rfl rfl) rfl ?_
 rintro v L' ⟨b1, rfl, rfl⟩
 refine yas ?_
 refine ynil' (kthn (hK1 _ _ ?_))
 clear hK1
 refine cseq ?_; intro K2 hK2
 refine cseq ?_; intro K3 hK3
 refine creg ?_
 refine y (ev_fieldAddr 7 rfl Tryz.underlying37 rfl Tryz.sizeOf35) rfl ?_
 refine y (ev_loadN (u := [i64 m.t0, i64 m.t1, i64 m.t2, i64 m.t3]) rfl Tryz.isAgg35 Tryz.sizeOf35 zin rfl rfl) rfl ?_
 refine ymv ?_
 refine ynil' (kthn (hK3 _ _ ?_))
 clear hK3
 have hJ1 : ∀ x : Nat, ((x ≤ 4 ∧ may4 m x = true) ∧ (x = 4)) → Sk 51 K2 ([(7, i64 x), (6, .agg #[i64 m.t0, i64 m.t1, i64 m.t2, i64 m.t3]), (1, ptr b1)]) ([sc b1 m.cells 37] ++ R) := by
  rintro k ⟨hI1, hX1⟩
  refine hK2 _ _ ?_
  obtain ⟨hk, hok⟩ := hI1
  subst hX1; have hm4 : within3 m.t0 0 4611686018427387904 = true ∧ within3 m.t1 0 4611686018427387904 = true ∧ within3 m.t2 0 4611686018427387904 = true ∧ within3 m.t3 0 4611686018427387904 = true := by simpa [may4, List.range, List.range.loop, MsgM.tn] using hok
  have hall := may_all hm4
  refine cseq ?_; intro K4 hK4
  refine creg ?_
  refine y (ev_fieldAddr 11 rfl Tryz.underlying37 rfl Tryz.sizeOf9) rfl ?_
  refine y (ev_load rfl Tryz.isAgg9 zin rfl) rfl ?_
  first
    | refine y (ev_lenStr rfl Tryz.underlying9) rfl ?_
    | refine y (ev_lenS rfl Tryz.underlying9) rfl ?_
  refine y (ev_leq rfl rfl) rfl ?_
  refine ymv ?_
  refine ysplit 20 rfl (fun h41 => ?_) (fun h41 => ?_)
  ·(try simp only [sH] at h41)
   refine ygo ?_
   refine y (ev_fieldAddr 12 rfl Tryz.underlying37 rfl Tryz.sizeOf9) rfl ?_
   refine ygo ?_
   refine y (ev_load rfl Tryz.isAgg9 zin rfl) rfl ?_
   refine ygo ?_
   first
     | refine y (ev_lenStr rfl Tryz.underlying9) rfl ?_
     | refine y (ev_lenS rfl Tryz.underlying9) rfl ?_
   refine ygo ?_
   refine y (ev_leq rfl rfl) rfl ?_
   refine ypa ?_
   refine ymv ?_
   refine ysplit 26 rfl (fun h48 => ?_) (fun h48 => ?_)
   ·(try simp only [sH] at h48)
    refine ygo ?_
    refine y (ev_fieldAddr 0 rfl Tryz.underlying37 rfl Tryz.sizeOf3) rfl ?_
    refine ygo ?_
    refine y (ev_load rfl Tryz.isAgg3 zin rfl) rfl ?_
    refine ygo ?_
    refine y (ev_build (vs := [i64 m.kind, i64 1, i64 15]) (zs := _) rfl Tryz.underlying161 Tryz.zeroValue161 rfl (.cons Tryz.sizeOf2 (.cons Tryz.sizeOf2 (.cons Tryz.sizeOf2 .nil))) ⟨⟨_, _, rfl, (by first | rfl | simp), (by first | decide | simp)⟩, ⟨⟨_, _, rfl, (by first | rfl | simp), (by first | decide | simp)⟩, ⟨⟨_, _, rfl, (by first | rfl | simp), (by first | decide | simp)⟩, trivial⟩⟩⟩ (by dsimp [fillL, splice, vcells] <;> rfl)) rfl ?_
    refine ygo ?_
    refine y (ev_fieldAddr 1 rfl Tryz.underlying37 rfl Tryz.sizeOf2) rfl ?_
    refine ygo ?_
    refine y (ev_load rfl Tryz.isAgg2 zin rfl) rfl ?_
    refine ygo ?_
    refine y (ev_build (vs := [i64 m.epoch, i64 0, i64 4611686018427387904]) (zs := _) rfl Tryz.underlying161 Tryz.zeroValue161 rfl (.cons Tryz.sizeOf2 (.cons Tryz.sizeOf2 (.cons Tryz.sizeOf2 .nil))) ⟨⟨_, _, rfl, (by first | rfl | simp), (by first | decide | simp)⟩, ⟨⟨_, _, rfl, (by first | rfl | simp), (by first | decide | simp)⟩, ⟨⟨_, _, rfl, (by first | rfl | simp), (by first | decide | simp)⟩, trivial⟩⟩⟩ (by dsimp [fillL, splice, vcells] <;> rfl)) rfl ?_
    refine ygo ?_
    refine y (ev_fieldAddr 2 rfl Tryz.underlying37 rfl Tryz.sizeOf2) rfl ?_
    refine ygo ?_
    refine y (ev_load rfl Tryz.isAgg2 zin rfl) rfl ?_
    refine ygo ?_
    refine y (ev_build (vs := [i64 m.seq, i64 0, i64 4611686018427387904]) (zs := _) rfl Tryz.underlying161 Tryz.zeroValue161 rfl (.cons Tryz.sizeOf2 (.cons Tryz.sizeOf2 (.cons Tryz.sizeOf2 .nil))) ⟨⟨_, _, rfl, (by first | rfl | simp), (by first | decide | simp)⟩, ⟨⟨_, _, rfl, (by first | rfl | simp), (by first | decide | simp)⟩, ⟨⟨_, _, rfl, (by first | rfl | simp), (by first | decide | simp)⟩, trivial⟩⟩⟩ (by dsimp [fillL, splice, vcells] <;> rfl)) rfl ?_
    refine ygo ?_
    refine y (ev_fieldAddr 3 rfl Tryz.underlying37 rfl Tryz.sizeOf2) rfl ?_
    refine ygo ?_
    refine y (ev_load rfl Tryz.isAgg2 zin rfl) rfl ?_
    refine ygo ?_
    refine y (ev_build (vs := [i64 m.n, i64 (-4611686018427387904), i64 4611686018427387904]) (zs := _) rfl Tryz.underlying161 Tryz.zeroValue161 rfl (.cons Tryz.sizeOf2 (.cons Tryz.sizeOf2 (.cons Tryz.sizeOf2 .nil))) ⟨⟨_, _, rfl, (by first | rfl | simp), (by first | decide | simp)⟩, ⟨⟨_, _, rfl, (by first | rfl | simp), (by first | decide | simp)⟩, ⟨⟨_, _, rfl, (by first | rfl | simp), (by first | decide | simp)⟩, trivial⟩⟩⟩ (by dsimp [fillL, splice, vcells] <;> rfl)) rfl ?_
    refine ygo ?_
    refine y (ev_fieldAddr 4 rfl Tryz.underlying37 rfl Tryz.sizeOf3) rfl ?_
    refine ygo ?_
    refine y (ev_load rfl Tryz.isAgg3 zin rfl) rfl ?_
    refine ygo ?_
    refine y (ev_build (vs := [i64 m.block, i64 (-1), i64 31]) (zs := _) rfl Tryz.underlying161 Tryz.zeroValue161 rfl (.cons Tryz.sizeOf2 (.cons Tryz.sizeOf2 (.cons Tryz.sizeOf2 .nil))) ⟨⟨_, _, rfl, (by first | rfl | simp), (by first | decide | simp)⟩, ⟨⟨_, _, rfl, (by first | rfl | simp), (by first | decide | simp)⟩, ⟨⟨_, _, rfl, (by first | rfl | simp), (by first | decide | simp)⟩, trivial⟩⟩⟩ (by dsimp [fillL, splice, vcells] <;> rfl)) rfl ?_
    refine ygo ?_
    refine y (ev_fieldAddr 5 rfl Tryz.underlying37 rfl Tryz.sizeOf3) rfl ?_
    refine ygo ?_
    refine y (ev_load rfl Tryz.isAgg3 zin rfl) rfl ?_
    refine ygo ?_
    refine y (ev_build (vs := [i64 m.client, i64 (-1), i64 3]) (zs := _) rfl Tryz.underlying161 Tryz.zeroValue161 rfl (.cons Tryz.sizeOf2 (.cons Tryz.sizeOf2 (.cons Tryz.sizeOf2 .nil))) ⟨⟨_, _, rfl, (by first | rfl | simp), (by first | decide | simp)⟩, ⟨⟨_, _, rfl, (by first | rfl | simp), (by first | decide | simp)⟩, ⟨⟨_, _, rfl, (by first | rfl | simp), (by first | decide | simp)⟩, trivial⟩⟩⟩ (by dsimp [fillL, splice, vcells] <;> rfl)) rfl ?_
    refine ygo ?_
    refine y (ev_fieldAddr 6 rfl Tryz.underlying37 rfl Tryz.sizeOf29) rfl ?_
    refine ygo ?_
    refine y (ev_load rfl Tryz.isAgg29 zin rfl) rfl ?_
    refine ygo ?_
    refine y (ev_build (vs := [i64 m.e, i64 0, i64 31]) (zs := _) rfl Tryz.underlying161 Tryz.zeroValue161 rfl (.cons Tryz.sizeOf2 (.cons Tryz.sizeOf2 (.cons Tryz.sizeOf2 .nil))) ⟨⟨_, _, rfl, (by first | rfl | simp), (by first | decide | simp)⟩, ⟨⟨_, _, rfl, (by first | rfl | simp), (by first | decide | simp)⟩, ⟨⟨_, _, rfl, (by first | rfl | simp), (by first | decide | simp)⟩, trivial⟩⟩⟩ (by dsimp [fillL, splice, vcells] <;> rfl)) rfl ?_
    refine ygo ?_
    refine ya (ac_bsliceR (vs := [i64 m.kind, i64 1, i64 15, i64 m.epoch, i64 0, i64 4611686018427387904, i64 m.seq, i64 0, i64 4611686018427387904, i64 m.n, i64 (-4611686018427387904), i64 4611686018427387904, i64 m.block, i64 (-1), i64 31, i64 m.client, i64 (-1), i64 3, i64 m.e, i64 0, i64 31]) rfl Tryz.underlying181 Tryz.sizeOf161 Tryz.zeroValue161 rfl rfl rfl rfl ⟨⟨_, _, rfl, (by first | rfl | simp), (by first | decide | simp)⟩, ⟨⟨_, _, rfl, (by first | rfl | simp), (by first | decide | simp)⟩, ⟨⟨_, _, rfl, (by first | rfl | simp), (by first | decide | simp)⟩, ⟨⟨_, _, rfl, (by first | rfl | simp), (by first | decide | simp)⟩, ⟨⟨_, _, rfl, (by first | rfl | simp), (by first | decide | simp)⟩, ⟨⟨_, _, rfl, (by first | rfl | simp), (by first | decide | simp)⟩, ⟨⟨_, _, rfl, (by first | rfl | simp), (by first | decide | simp)⟩, trivial⟩⟩⟩⟩⟩⟩⟩ (by dsimp [fillL, splice, vcells, reps] <;> rfl)) rfl ?_
    rintro v L' ⟨b48, rfl, rfl⟩
    refine ygo ?_
    refine ycall (mAll (l := [(m.kind, 1, 15), (m.epoch, 0, 4611686018427387904), (m.seq, 0, 4611686018427387904), (m.n, -4611686018427387904, 4611686018427387904), (m.block, -1, 31), (m.client, -1, 3), (m.e, 0, 31)]) ?wis71 ?len71) rfl Tryz.call78 ztk rfl ?_
    case wis71 => exact rdV_in zin rfl rfl
    case len71 => simp
    rintro v L' ⟨rfl, rfl⟩
    refine ypa ?_
    refine yas ?_
    refine ynil' (kthn (hK4 _ _ ?_))
    clear hK4
    refine cret ?_
    first
      | (exfalso; omega; done)
      | (refine kretv Tryz.results46 rfl (L1 := R) zge ?_
         exact ⟨_, ⟨by first | rfl | rw [hno] | (rw [hall]; simp_all; done) | (rw [hall]; simp; omega), rfl⟩, by first | rfl | rw [hno] | (rw [hall]; simp_all; done) | (rw [hall]; simp; omega)⟩)
   ·(try simp only [sH] at h48)
    refine ygz ?_
    refine ygz ?_
    refine ygz ?_
    refine ygz ?_
    refine ygz ?_
    refine ygz ?_
    refine ygz ?_
    refine ygz ?_
    refine ygz ?_
    refine ygz ?_
    refine ygz ?_
    refine ygz ?_
    refine ygz ?_
    refine ygz ?_
    refine ygz ?_
    refine ygz ?_
    refine ygz ?_
    refine ygz ?_
    refine ygz ?_
    refine ygz ?_
    refine ygz ?_
    refine ygz ?_
    refine ygz ?_
    refine ypb ?_
    refine yas ?_
    refine ynil' (kthn (hK4 _ _ ?_))
    clear hK4
    refine cret ?_
    first
      | (exfalso; omega; done)
      | (refine kretv Tryz.results46 rfl (L1 := R) zge ?_
         exact ⟨_, ⟨by first | rfl | rw [hno] | (rw [hall]; simp_all; done) | (rw [hall]; simp; omega), rfl⟩, by first | rfl | rw [hno] | (rw [hall]; simp_all; done) | (rw [hall]; simp; omega)⟩)
  ·(try simp only [sH] at h41)
   refine ygz ?_
   refine ygz ?_
   refine ygz ?_
   refine ygz ?_
   refine ypb ?_
   refine ymv ?_
   refine ygz ?_
   refine ygz ?_
   refine ygz ?_
   refine ygz ?_
   refine ygz ?_
   refine ygz ?_
   refine ygz ?_
   refine ygz ?_
   refine ygz ?_
   refine ygz ?_
   refine ygz ?_
   refine ygz ?_
   refine ygz ?_
   refine ygz ?_
   refine ygz ?_
   refine ygz ?_
   refine ygz ?_
   refine ygz ?_
   refine ygz ?_
   refine ygz ?_
   refine ygz ?_
   refine ygz ?_
   refine ygz ?_
   refine ypb ?_
   refine yas ?_
   refine ynil' (kthn (hK4 _ _ ?_))
   clear hK4
   refine cret ?_
   first
     | (exfalso; omega; done)
     | (refine kretv Tryz.results46 rfl (L1 := R) zge ?_
        exact ⟨_, ⟨by first | rfl | rw [hno] | (rw [hall]; simp_all; done) | (rw [hall]; simp; omega), rfl⟩, by first | rfl | rw [hno] | (rw [hall]; simp_all; done) | (rw [hall]; simp; omega)⟩)
 clear hK2
 refine cblock ?_
 refine cloop (A := Nat) (fun x => [(7, i64 x), (6, .agg #[i64 m.t0, i64 m.t1, i64 m.t2, i64 m.t3]), (1, ptr b1)]) (fun x => [sc b1 m.cells 37] ++ R) (fun x => x ≤ 4 ∧ may4 m x = true) (fun x => 4 - x) (0) ?_ zsub zge ?_
 · exact ⟨Nat.zero_le _, rfl⟩
 rintro k hI1 KL1 hL1
 have hI1o := hI1
 obtain ⟨hk, hok⟩ := hI1
 refine cseq ?_; intro K5 hK5
 refine creg ?_
 refine y (ev_lss rfl rfl) rfl ?_
 refine ynil' (kthn (hK5 _ _ ?_))
 clear hK5
 refine cseq ?_; intro K6 hK6
 refine ccond rfl (fun h81 => ?_) (fun h81 => ?_)
 ·(try simp only [sH] at h81)
  have hix : ([i64 m.t0, i64 m.t1, i64 m.t2, i64 m.t3] : List Value)[k]? = some (i64 (m.tn k)) := by
    match k, hk with
    | 0, _ => rfl
    | 1, _ => rfl
    | 2, _ => rfl
    | 3, _ => rfl
    | 4, _ => omega
  refine cskip' (kthn (hK6 _ _ ?_))
  clear hK6
  refine cseq ?_; intro K7 hK7
  refine cblock ?_
  refine cseq ?_; intro K8 hK8
  refine creg ?_
  refine y (ev_ixA1 rfl rfl Tryz.underlying35 Tryz.isAgg2 Tryz.sizeOf2 (by omega) (by omega) (by first | exact hix | (rw [show ((k : Nat) : Int).toNat * 1 = k by simp]; exact hix))) rfl ?_
  refine yas ?_
  refine ynil' (kthn (hK8 _ _ ?_))
  clear hK8
  refine cseq ?_; intro K9 hK9
  refine creg ?_
  refine ymv ?_
  refine y (ev_build (zs := _) rfl Tryz.underlying161 Tryz.zeroValue161 rfl (.cons Tryz.sizeOf2 (.cons Tryz.sizeOf2 (.cons Tryz.sizeOf2 .nil))) ⟨⟨_, _, rfl, (by first | rfl | simp), (by first | decide | simp)⟩, ⟨⟨_, _, rfl, (by first | rfl | simp), (by first | decide | simp)⟩, ⟨⟨_, _, rfl, (by first | rfl | simp), (by first | decide | simp)⟩, trivial⟩⟩⟩ (by dsimp [fillL, splice, vcells] <;> rfl)) rfl ?_
  refine ya (ac_bsliceR rfl Tryz.underlying181 Tryz.sizeOf161 Tryz.zeroValue161 rfl rfl rfl rfl ⟨⟨_, _, rfl, (by first | rfl | simp), (by first | decide | simp)⟩, trivial⟩ (by dsimp [fillL, splice, vcells, reps] <;> rfl)) rfl ?_
  rintro v L' ⟨b12, rfl, rfl⟩
  refine ycall (mAll (l := [(m.tn k, 0, 4611686018427387904)]) ?wis87 ?len87) rfl Tryz.call78 ztk rfl ?_
  case wis87 => exact rdV_in zin rfl rfl
  case len87 => simp
  rintro v L' ⟨rfl, rfl⟩
  refine y (ev_not rfl) rfl ?_
  refine ynil' (kthn (hK9 _ _ ?_))
  clear hK9
  refine ccond rfl (fun h89 => ?_) (fun h89 => ?_)
  ·(try simp only [sH] at h89)
   refine cseq ?_; intro K10 hK10
   refine creg ?_
   have hno : m.may = false := may_not (k := k) (by omega) (by simp_all [wiOk])
   refine yas ?_
   refine ynil' (kthn (hK10 _ _ ?_))
   clear hK10
   refine cret (kbr (kthr (kthr (kbr (kthr ?_)))))
   first
     | (exfalso; omega; done)
     | (refine kretv Tryz.results46 rfl (L1 := R) zge ?_
        exact ⟨_, ⟨by first | rfl | rw [hno] | (rw [hall]; simp_all; done) | (rw [hall]; simp; omega), rfl⟩, by first | rfl | rw [hno] | (rw [hall]; simp_all; done) | (rw [hall]; simp; omega)⟩)
  ·(try simp only [sH] at h89)
   refine cskip' (kbn (kthn (hK7 _ _ ?_)))
   clear hK7
   refine creg ?_
   have hok2 : may4 m (k + 1) = true := by unfold may4 at hok ⊢; rw [List.range_succ, List.all_append, hok]; simp_all [wiOk]
   refine y (ev_add rfl rfl) rfl ?_
   rw [show IntKind.i64.wrap ((k:Int) + 1) = ((k+1 : Nat) : Int) by rw [wr (by omega) (by omega)]; rfl]
   refine ymv ?_
   refine ynil' (kthn ?_)
   exact hL1 (k + 1) (⟨by omega, hok2⟩) (by omega) _ _ zsub zge
 ·(try simp only [sH] at h81)
  refine cexit (kthx (kthx (kbx (kthn ?_))))
  exact ksub zsub zge (hJ1 k ⟨hI1o, by first | trivial | omega⟩)
end W
end Go.Proofs
