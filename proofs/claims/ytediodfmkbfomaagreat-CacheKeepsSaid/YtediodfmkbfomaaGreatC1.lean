/- A part of the proof: contracts and plain lemmas, each without conditions beyond those that it names. -/
import Derived.Test.YtediodfmkbfomaaGreatSlAs
import Derived.Test.YtediodfmkbfomaaGreatGN
set_option linter.unusedVariables false
set_option linter.unusedSimpArgs false
set_option linter.constructorNameAsVariable false
namespace Go.Proofs
open Go Go.Sl
namespace W
set_option linter.unusedVariables false
theorem kWithin [Env] {R : List Seg} {n lo hi : Int} : Con Tryz.prog 41 [i64 n, i64 lo, i64 hi] [] R (Is (.bool (within3 n lo hi)) []) := by
 refine con_enter Tryz.func41 Tryz.ntmps41 rfl rfl ?_
 refine cseq ?_; intro K1 hK1
 refine creg ?_
 refine yas ?_
 refine ynil' (kthn (hK1 _ _ ?_))
 clear hK1
 refine cseq ?_; intro K2 hK2
 refine creg ?_
 refine ymv ?_
 refine ymv ?_
 refine y (ev_geq rfl rfl) rfl ?_
 refine ymv ?_
 refine ysplit 10 rfl (fun h6 => ?_) (fun h6 => ?_)
 ·(try simp only [sH] at h6)
  refine ygo ?_
  refine ymv ?_
  refine ygo ?_
  refine ymv ?_
  refine ygo ?_
  refine y (ev_leq rfl rfl) rfl ?_
  refine ypa ?_
  refine yas ?_
  refine ynil' (kthn (hK2 _ _ ?_))
  clear hK2
  refine cret ?_
  first
    | (exfalso; omega; done)
    | (refine kretv Tryz.results41 rfl (L1 := R) zge ?_
       exact ⟨_, ⟨by first | rfl | (simp [within3, *]; done), rfl⟩, by first | rfl | (simp [within3, *]; done)⟩)
 ·(try simp only [sH] at h6)
  refine ygz ?_
  refine ygz ?_
  refine ygz ?_
  refine ypb ?_
  refine yas ?_
  refine ynil' (kthn (hK2 _ _ ?_))
  clear hK2
  refine cret ?_
  first
    | (exfalso; omega; done)
    | (refine kretv Tryz.results41 rfl (L1 := R) zge ?_
       exact ⟨_, ⟨by first | rfl | (simp [within3, *]; done), rfl⟩, by first | rfl | (simp [within3, *]; done)⟩)
theorem kOdd [Env] {R : List Seg} {n : Int} : Con Tryz.prog 42 [i64 n] [] R (Is (.bool (oddN n)) []) := by
 refine con_enter Tryz.func42 Tryz.ntmps42 rfl rfl ?_
 refine cseq ?_; intro K1 hK1
 refine creg ?_
 refine yas ?_
 refine ynil' (kthn (hK1 _ _ ?_))
 clear hK1
 refine cseq ?_; intro K2 hK2
 refine creg ?_
 refine ymv ?_
 refine ycall (kWithin) rfl Tryz.call41 ztk rfl ?_
 rintro v L' ⟨rfl, rfl⟩
 refine y (ev_not rfl) rfl ?_
 refine yas ?_
 refine ynil' (kthn (hK2 _ _ ?_))
 clear hK2
 refine cret ?_
 first
   | (exfalso; omega; done)
   | (refine kretv Tryz.results42 rfl (L1 := R) zge ?_
      exact ⟨_, ⟨by rfl, rfl⟩, by rfl⟩)
theorem kMay [Env] {R : List Seg} {e s least : Int} : Con Tryz.prog 40 [.agg #[i64 e, i64 s], i64 least] [] R (Is (.bool (mayV e s least)) []) := by
 refine con_enter Tryz.func40 Tryz.ntmps40 rfl rfl ?_
 refine cseq ?_; intro K1 hK1
 refine creg ?_
 refine ya (ac_box (vs := [i64 e, i64 s]) rfl rfl) rfl ?_
 rintro v L' ⟨b2, rfl, rfl⟩
 refine yas ?_
 refine ynil' (kthn (hK1 _ _ ?_))
 clear hK1
 refine cseq ?_; intro K2 hK2
 refine creg ?_
 refine y (ev_fieldAddr 0 rfl Tryz.underlying31 rfl Tryz.sizeOf2) rfl ?_
 refine y (ev_load rfl Tryz.isAgg2 zin rfl) rfl ?_
 refine ymv ?_
 refine ycall (kWithin) rfl Tryz.call41 ztk rfl ?_
 rintro v L' ⟨rfl, rfl⟩
 refine ymv ?_
 refine ysplit 9 rfl (fun h26 => ?_) (fun h26 => ?_)
 ·(try simp only [sH] at h26)
  refine ygo ?_
  refine y (ev_fieldAddr 1 rfl Tryz.underlying31 rfl Tryz.sizeOf2) rfl ?_
  refine ygo ?_
  refine y (ev_load rfl Tryz.isAgg2 zin rfl) rfl ?_
  refine ygo ?_
  refine ymv ?_
  refine ygo ?_
  refine ycall (kWithin) rfl Tryz.call41 ztk rfl ?_
  rintro v L' ⟨rfl, rfl⟩
  refine ypa ?_
  refine yas ?_
  refine ynil' (kthn (hK2 _ _ ?_))
  clear hK2
  refine cret ?_
  first
    | (exfalso; omega; done)
    | (refine kretv Tryz.results40 rfl (L1 := R) zge ?_
       exact ⟨_, ⟨by first | rfl | (unfold mayV; simp [*]; done), rfl⟩, by first | rfl | (unfold mayV; simp [*]; done)⟩)
 ·(try simp only [sH] at h26)
  refine ygz ?_
  refine ygz ?_
  refine ygz ?_
  refine ygz ?_
  refine ypb ?_
  refine yas ?_
  refine ynil' (kthn (hK2 _ _ ?_))
  clear hK2
  refine cret ?_
  first
    | (exfalso; omega; done)
    | (refine kretv Tryz.results40 rfl (L1 := R) zge ?_
       exact ⟨_, ⟨by first | rfl | (unfold mayV; simp [*]; done), rfl⟩, by first | rfl | (unfold mayV; simp [*]; done)⟩)
theorem kAbove [Env] {R : List Seg} {e s e' s' : Int} : Con Tryz.prog 39 [.agg #[i64 e, i64 s], .agg #[i64 e', i64 s']] [] R (Is (.bool (aboveV e s e' s')) []) := by
 refine con_enter Tryz.func39 Tryz.ntmps39 rfl rfl ?_
 refine cseq ?_; intro K1 hK1
 refine creg ?_
 refine ya (ac_box (vs := [i64 e, i64 s]) rfl rfl) rfl ?_
 rintro v L' ⟨b2, rfl, rfl⟩
 refine ya (ac_box (vs := [i64 e', i64 s']) rfl rfl) rfl ?_
 rintro v L' ⟨b3, rfl, rfl⟩
 refine yas ?_
 refine ynil' (kthn (hK1 _ _ ?_))
 clear hK1
 refine cseq ?_; intro K2 hK2
 refine creg ?_
 refine y (ev_fieldAddr 0 rfl Tryz.underlying31 rfl Tryz.sizeOf2) rfl ?_
 refine y (ev_load rfl Tryz.isAgg2 zin rfl) rfl ?_
 refine y (ev_fieldAddr 0 rfl Tryz.underlying31 rfl Tryz.sizeOf2) rfl ?_
 refine y (ev_load rfl Tryz.isAgg2 zin rfl) rfl ?_
 refine y (ev_gtr rfl rfl) rfl ?_
 refine ymv ?_
 refine ysplit 10 rfl (fun h44 => ?_) (fun h44 => ?_)
 ·(try simp only [sH] at h44)
  refine ygz ?_
  refine ygz ?_
  refine ygz ?_
  refine ygz ?_
  refine ygz ?_
  refine ygz ?_
  refine yg0u rfl rfl rfl ?_
  refine yg0u rfl rfl rfl ?_
  refine yg0u rfl rfl rfl ?_
  refine yg0u rfl rfl rfl ?_
  refine yg0u rfl rfl rfl ?_
  refine ygz ?_
  refine ypa ?_
  refine yas ?_
  refine ynil' (kthn (hK2 _ _ ?_))
  clear hK2
  refine cret ?_
  first
    | (exfalso; omega; done)
    | (refine kretv Tryz.results39 rfl (L1 := R) zge ?_
       exact ⟨_, ⟨by first | rfl | (simp [aboveV, *]; done), rfl⟩, by first | rfl | (simp [aboveV, *]; done)⟩)
 ·(try simp only [sH] at h44)
  refine ygo ?_
  refine y (ev_fieldAddr 0 rfl Tryz.underlying31 rfl Tryz.sizeOf2) rfl ?_
  refine ygo ?_
  refine y (ev_load rfl Tryz.isAgg2 zin rfl) rfl ?_
  refine ygo ?_
  refine y (ev_fieldAddr 0 rfl Tryz.underlying31 rfl Tryz.sizeOf2) rfl ?_
  refine ygo ?_
  refine y (ev_load rfl Tryz.isAgg2 zin rfl) rfl ?_
  refine ygo ?_
  refine y (ev_eql rfl rfl) rfl ?_
  refine ygo ?_
  refine ymv ?_
  refine ysplit 16 rfl (fun h53 => ?_) (fun h53 => ?_)
  ·(try simp only [sH] at h53)
   refine ygo ?_
   refine y (ev_fieldAddr 1 rfl Tryz.underlying31 rfl Tryz.sizeOf2) rfl ?_
   refine ygo ?_
   refine y (ev_load rfl Tryz.isAgg2 zin rfl) rfl ?_
   refine ygo ?_
   refine y (ev_fieldAddr 1 rfl Tryz.underlying31 rfl Tryz.sizeOf2) rfl ?_
   refine ygo ?_
   refine y (ev_load rfl Tryz.isAgg2 zin rfl) rfl ?_
   refine ygo ?_
   refine y (ev_gtr rfl rfl) rfl ?_
   refine ygo ?_
   refine ypa ?_
   refine ypb ?_
   refine yas ?_
   refine ynil' (kthn (hK2 _ _ ?_))
   clear hK2
   refine cret ?_
   first
     | (exfalso; omega; done)
     | (refine kretv Tryz.results39 rfl (L1 := R) zge ?_
        exact ⟨_, ⟨by first | rfl | (simp [aboveV, *]; done), rfl⟩, by first | rfl | (simp [aboveV, *]; done)⟩)
  ·(try simp only [sH] at h53)
   refine ygz ?_
   refine ygz ?_
   refine ygz ?_
   refine ygz ?_
   refine ygz ?_
   refine ygo ?_
   refine ypb ?_
   refine ypb ?_
   refine yas ?_
   refine ynil' (kthn (hK2 _ _ ?_))
   clear hK2
   refine cret ?_
   first
     | (exfalso; omega; done)
     | (refine kretv Tryz.results39 rfl (L1 := R) zge ?_
        exact ⟨_, ⟨by first | rfl | (simp [aboveV, *]; done), rfl⟩, by first | rfl | (simp [aboveV, *]; done)⟩)
theorem kIndexInt [Env] {R : List Seg} {v : Value} {ns : List Int} {g : FuncId} {p : Int → Bool} (hv : RdV R v ns.length (intsV ns)) (hl : ns.length < 1000000)
   (hcall : ∀ (args : Array Value) (w : World), (callFunc g args).run Tryz.prog w = .ok (.enter g args) w) (hp : ∀ (R : List Seg) (n : Int), Con Tryz.prog g ([i64 n] ++ []) [] R (Is (.bool (p n)) [])) :
   Con Tryz.prog 85 [v, .func (.func g) #[] #[]] [] R (fun u L' => ∃ i : Int, u = i64 i ∧ decide (0 ≤ i) = ns.any p ∧ L' = []) := by
 refine con_enter Tryz.func85 Tryz.ntmps85 rfl rfl ?_
 refine cseq ?_; intro K1 hK1
 refine creg ?_
 refine yas ?_
 refine ynil' (kthn (hK1 _ _ ?_))
 clear hK1
 refine cseq ?_; intro K2 hK2
 refine cseq ?_; intro K3 hK3
 refine creg ?_
 refine ymv ?_
 first
   | refine y (ev_len rfl Tryz.underlying56) rfl ?_
   | refine y (ev_lenSv rfl Tryz.underlying56 (by assumption)) rfl ?_
   | refine y (ev_lenV rfl Tryz.underlying56 (RdV.lenVal (by assumption))) rfl ?_
   | refine y (ev_lenV rfl Tryz.underlying56 (RdB.lenVal (by assumption))) rfl ?_
 refine ymv ?_
 refine ynil' (kthn (hK3 _ _ ?_))
 clear hK3
 have hJ1 : ∀ x : Nat, ((x ≤ ns.length ∧ (ns.take x).any p = false) ∧ (x = ns.length)) → Sk 19 K2 ([(8, i64 x), (7, i64 ns.length), (0, v), (1, .func (.func g) #[] #[])]) (R) := by
  rintro k ⟨hI1, hX1⟩
  refine hK2 _ _ ?_
  obtain ⟨hk, hno⟩ := hI1
  subst hX1; rw [List.take_length] at hno
  refine cseq ?_; intro K4 hK4
  refine creg ?_
  refine yas ?_
  refine ynil' (kthn (hK4 _ _ ?_))
  clear hK4
  refine cret ?_
  first
    | (exfalso; omega; done)
    | (refine kretv Tryz.results85 rfl (L1 := R) zge ?_
       first
         | exact ⟨[], ⟨_, rfl, by rw [hyes]; simp, rfl⟩, rfl⟩
         | exact ⟨[], ⟨_, rfl, by rw [hno]; simp, rfl⟩, rfl⟩)
 clear hK2
 refine cblock ?_
 refine cloop (A := Nat) (fun x => [(8, i64 x), (7, i64 ns.length), (0, v), (1, .func (.func g) #[] #[])]) (fun x => R) (fun x => x ≤ ns.length ∧ (ns.take x).any p = false) (fun x => ns.length - x) (0) ?_ zsub zge ?_
 · exact ⟨Nat.zero_le _, by simp⟩
 rintro k hI1 KL1 hL1
 have hI1o := hI1
 obtain ⟨hk, hno⟩ := hI1
 refine cseq ?_; intro K5 hK5
 refine creg ?_
 refine y (ev_lss rfl rfl) rfl ?_
 refine ynil' (kthn (hK5 _ _ ?_))
 clear hK5
 refine cseq ?_; intro K6 hK6
 refine ccond rfl (fun h71 => ?_) (fun h71 => ?_)
 ·(try simp only [sH] at h71)
  obtain ⟨t, ht⟩ : ∃ t, ns[k]? = some t := ⟨_, List.getElem?_eq_getElem (by omega)⟩
  refine cskip' (kthn (hK6 _ _ ?_))
  clear hK6
  refine cseq ?_; intro K7 hK7
  refine cblock ?_
  refine cseq ?_; intro K8 hK8
  refine creg ?_
  refine ymv ?_
  refine yas ?_
  refine ynil' (kthn (hK8 _ _ ?_))
  clear hK8
  refine cseq ?_; intro K9 hK9
  refine creg ?_
  refine ymv ?_
  refine ymv ?_
  refine ymv ?_
  first
    | refine y (ev_ixAddr rfl rfl Tryz.underlying56 Tryz.sizeOf2 (by omega) (by omega)) rfl ?_
    | refine y (ev_ixV (by assumption) rfl rfl Tryz.underlying56 Tryz.sizeOf2 (by omega) (by omega)) rfl ?_
  refine y (ev_loadV k hv zge rfl Tryz.isAgg2 (by simp) (intsV_get ht)) rfl ?_
  refine ycallF rfl (hp _ t) rfl hcall ztk rfl ?_
  rintro v L' ⟨rfl, rfl⟩
  refine ynil' (kthn (hK9 _ _ ?_))
  clear hK9
  refine ccond rfl (fun h80 => ?_) (fun h80 => ?_)
  ·(try simp only [sH] at h80)
   have hyes : ns.any p = true := List.any_eq_true.2 ⟨t, List.mem_of_getElem? ht, h80⟩
   refine cseq ?_; intro K10 hK10
   refine creg ?_
   refine ymv ?_
   refine yas ?_
   refine ynil' (kthn (hK10 _ _ ?_))
   clear hK10
   refine cret (kbr (kthr (kthr (kbr (kthr ?_)))))
   first
     | (exfalso; omega; done)
     | (refine kretv Tryz.results85 rfl (L1 := R) zge ?_
        first
          | exact ⟨[], ⟨_, rfl, by rw [hyes]; simp, rfl⟩, rfl⟩
          | exact ⟨[], ⟨_, rfl, by rw [hno]; simp, rfl⟩, rfl⟩)
  ·(try simp only [sH] at h80)
   have hno2 : (ns.take (k + 1)).any p = false := by rw [take_snoc ht]; simp [hno, h80]
   refine cskip' (kbn (kthn (hK7 _ _ ?_)))
   clear hK7
   refine creg ?_
   refine y (ev_add rfl rfl) rfl ?_
   rw [show IntKind.i64.wrap ((k:Int) + 1) = ((k+1 : Nat) : Int) by rw [wr (by omega) (by omega)]; rfl]
   refine ymv ?_
   refine ynil' (kthn ?_)
   exact hL1 (k + 1) (⟨by omega, hno2⟩) (by omega) _ _ zsub zge
 ·(try simp only [sH] at h71)
  refine cexit (kthx (kthx (kbx (kthn ?_))))
  exact ksub zsub zge (hJ1 k ⟨hI1o, by first | trivial | omega⟩)
theorem kContainsInt [Env] {R : List Seg} {v : Value} {ns : List Int} {g : FuncId} {p : Int → Bool} (hv : RdV R v ns.length (intsV ns)) (hl : ns.length < 1000000)
   (hcall : ∀ (args : Array Value) (w : World), (callFunc g args).run Tryz.prog w = .ok (.enter g args) w) (hp : ∀ (R : List Seg) (n : Int), Con Tryz.prog g ([i64 n] ++ []) [] R (Is (.bool (p n)) [])) :
   Con Tryz.prog 66 [v, .func (.func g) #[] #[]] [] R (Is (.bool (ns.any p)) []) := by
 refine con_enter Tryz.func66 Tryz.ntmps66 rfl rfl ?_
 refine cseq ?_; intro K1 hK1
 refine creg ?_
 refine yas ?_
 refine ynil' (kthn (hK1 _ _ ?_))
 clear hK1
 refine cseq ?_; intro K2 hK2
 refine creg ?_
 refine ymv ?_
 refine ymv ?_
 refine ycall (kIndexInt ?hv88 hl hcall hp) rfl Tryz.call85 ztk rfl ?_
 case hv88 => exact hv.mono zge
 rintro v L' ⟨i7, rfl, hi7, rfl⟩
 refine y (ev_geq rfl rfl) rfl ?_
 rw [hi7]
 refine yas ?_
 refine ynil' (kthn (hK2 _ _ ?_))
 clear hK2
 refine cret ?_
 first
   | (exfalso; omega; done)
   | (refine kretv Tryz.results66 rfl (L1 := R) zge ?_
      exact ⟨_, ⟨by rfl, rfl⟩, by rfl⟩)
theorem kWrong [Env] {R : List Seg} {v : Value} {e s : Int} {ns : List Int} (hv : RdV R v ns.length (intsV ns)) (hl : ns.length < 1000000) :
   Con Tryz.prog 51 [.agg #[i64 e, i64 s], v] [] R (Is (.bool (!mayV e s 0 || decide (ns.length ≠ 4) || ns.any oddN)) []) := by
 refine con_enter Tryz.func51 Tryz.ntmps51 rfl rfl ?_
 refine cseq ?_; intro K1 hK1
 refine creg ?_
 refine ya (ac_box (vs := [i64 e, i64 s]) rfl rfl) rfl ?_
 rintro v L' ⟨b2, rfl, rfl⟩
 refine yas ?_
 refine ynil' (kthn (hK1 _ _ ?_))
 clear hK1
 refine cseq ?_; intro K2 hK2
 refine creg ?_
 refine y (ev_loadN (u := [i64 e, i64 s]) rfl Tryz.isAgg31 Tryz.sizeOf31 zin rfl rfl) rfl ?_
 refine ycall (kMay) rfl Tryz.call40 ztk rfl ?_
 rintro v L' ⟨rfl, rfl⟩
 refine y (ev_not rfl) rfl ?_
 refine ymv ?_
 refine ysplit 8 rfl (fun h97 => ?_) (fun h97 => ?_)
 ·(try simp only [sH] at h97)
  refine ygz ?_
  refine ygz ?_
  refine ygz ?_
  refine ypa ?_
  refine ymv ?_
  refine ygz ?_
  refine ygz ?_
  refine ypa ?_
  refine yas ?_
  refine ynil' (kthn (hK2 _ _ ?_))
  clear hK2
  refine cret ?_
  first
    | (exfalso; omega; done)
    | (refine kretv Tryz.results51 rfl (L1 := R) zge ?_
       exact ⟨_, ⟨by first | rfl | (simp [*]; done) | (simp [*]; omega) | (simp_all; omega), rfl⟩, by first | rfl | (simp [*]; done) | (simp [*]; omega) | (simp_all; omega)⟩)
 ·(try simp only [sH] at h97)
  refine ygo ?_
  refine ymv ?_
  refine ygo ?_
  refine y (ev_lenV rfl Tryz.underlying56 hv.lenVal) rfl ?_
  refine ygo ?_
  refine y (ev_neq rfl rfl) rfl ?_
  refine ypb ?_
  refine ymv ?_
  refine ysplit 13 rfl (fun h107 => ?_) (fun h107 => ?_)
  ·(try simp only [sH] at h107)
   refine ygz ?_
   refine ygz ?_
   refine ypa ?_
   refine yas ?_
   refine ynil' (kthn (hK2 _ _ ?_))
   clear hK2
   refine cret ?_
   first
     | (exfalso; omega; done)
     | (refine kretv Tryz.results51 rfl (L1 := R) zge ?_
        exact ⟨_, ⟨by first | rfl | (simp [*]; done) | (simp [*]; omega) | (simp_all; omega), rfl⟩, by first | rfl | (simp [*]; done) | (simp [*]; omega) | (simp_all; omega)⟩)
  ·(try simp only [sH] at h107)
   refine ygo ?_
   refine ymv ?_
   refine ygo ?_
   refine ycall (kContainsInt (p := oddN) ?hv111 hl Tryz.call42 (fun R n => kOdd)) rfl Tryz.call66 ztk rfl ?_
   case hv111 => exact hv.mono zge
   rintro v L' ⟨rfl, rfl⟩
   refine ypb ?_
   refine yas ?_
   refine ynil' (kthn (hK2 _ _ ?_))
   clear hK2
   refine cret ?_
   first
     | (exfalso; omega; done)
     | (refine kretv Tryz.results51 rfl (L1 := R) zge ?_
        exact ⟨_, ⟨by first | rfl | (simp [*]; done) | (simp [*]; omega) | (simp_all; omega), rfl⟩, by first | rfl | (simp [*]; done) | (simp [*]; omega) | (simp_all; omega)⟩)
end W
end Go.Proofs
