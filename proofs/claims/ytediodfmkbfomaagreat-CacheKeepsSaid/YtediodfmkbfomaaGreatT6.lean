/- A part of the proof: contracts and plain lemmas, each without conditions beyond those that it names. -/
import Derived.Test.YtediodfmkbfomaaGreatT5
import Derived.Test.YtediodfmkbfomaaGreatGF
set_option linter.unusedVariables false
set_option linter.unusedSimpArgs false
set_option linter.constructorNameAsVariable false
namespace Go.Proofs
open Go Go.Sl
namespace W
set_option linter.unusedVariables false
/-- Whether one of the strings is told 'yes' of. -/
theorem cIndexStr [Env] {R : List Seg} {v : Value} {ts : List Bytes} {g : FuncId} {p : Bytes → Bool} (hv : RdV R v ts.length (strsV ts)) (hl : ts.length < 1000000)
   (hcall : ∀ (args : Array Value) (w : World), (callFunc g args).run Tryz.prog w = .ok (.enter g args) w) (hp : ∀ (R : List Seg) (t : Bytes), Con Tryz.prog g ([.string ⟨t.toArray⟩] ++ []) [] R (Is (.bool (p t)) [])) :
   Con Tryz.prog 119 [v, .func (.func g) #[] #[]] [] R (fun u L' => ∃ i : Int, u = i64 i ∧ decide (0 ≤ i) = ts.any p ∧ L' = []) := by
 refine con_enter Tryz.func119 Tryz.ntmps119 rfl rfl ?_
 refine cseq ?_; intro K1 hK1
 refine creg ?_
 refine yas ?_
 refine ynil' (kthn (hK1 _ _ ?_))
 clear hK1
 refine cseq ?_; intro K2 hK2
 refine cseq ?_; intro K3 hK3
 refine creg ?_
 refine ymv ?_
 first
   | refine y (ev_len rfl Tryz.underlying98) rfl ?_
   | refine y (ev_lenSv rfl Tryz.underlying98 (by assumption)) rfl ?_
   | refine y (ev_lenV rfl Tryz.underlying98 (RdV.lenVal (by assumption))) rfl ?_
   | refine y (ev_lenV rfl Tryz.underlying98 (RdB.lenVal (by assumption))) rfl ?_
 refine ymv ?_
 refine ynil' (kthn (hK3 _ _ ?_))
 clear hK3
 have hJ1 : ∀ x : Nat, ((x ≤ ts.length ∧ (ts.take x).any p = false) ∧ (x = ts.length)) → Sk 19 K2 ([(8, i64 x), (7, i64 ts.length), (0, v), (1, .func (.func g) #[] #[])]) (R) := by
  rintro k ⟨hI1, hX1⟩
  refine hK2 _ _ ?_
  obtain ⟨hk, hno⟩ := hI1
  subst hX1; rw [List.take_length] at hno
  refine cseq ?_; intro K4 hK4
  refine creg ?_
  refine yas ?_
  refine ynil' (kthn (hK4 _ _ ?_))
  clear hK4
  refine cret ?_
  first
    | (exfalso; omega; done)
    | (refine kretv Tryz.results119 rfl (L1 := R) zge ?_
       first
         | exact ⟨[], ⟨_, rfl, by rw [hyes]; simp, rfl⟩, rfl⟩
         | exact ⟨[], ⟨_, rfl, by rw [hno]; simp, rfl⟩, rfl⟩)
 clear hK2
 refine cblock ?_
 refine cloop (A := Nat) (fun x => [(8, i64 x), (7, i64 ts.length), (0, v), (1, .func (.func g) #[] #[])]) (fun x => R) (fun x => x ≤ ts.length ∧ (ts.take x).any p = false) (fun x => ts.length - x) (0) ?_ zsub zge ?_
 · exact ⟨Nat.zero_le _, by simp⟩
 rintro k hI1 KL1 hL1
 have hI1o := hI1
 obtain ⟨hk, hno⟩ := hI1
 refine cseq ?_; intro K5 hK5
 refine creg ?_
 refine y (ev_lss rfl rfl) rfl ?_
 refine ynil' (kthn (hK5 _ _ ?_))
 clear hK5
 refine cseq ?_; intro K6 hK6
 refine ccond rfl (fun h7 => ?_) (fun h7 => ?_)
 ·(try simp only [sH] at h7)
  obtain ⟨t, ht⟩ : ∃ t, ts[k]? = some t := ⟨_, List.getElem?_eq_getElem (by omega)⟩
  refine cskip' (kthn (hK6 _ _ ?_))
  clear hK6
  refine cseq ?_; intro K7 hK7
  refine cblock ?_
  refine cseq ?_; intro K8 hK8
  refine creg ?_
  refine ymv ?_
  refine yas ?_
  refine ynil' (kthn (hK8 _ _ ?_))
  clear hK8
  refine cseq ?_; intro K9 hK9
  refine creg ?_
  refine ymv ?_
  refine ymv ?_
  refine ymv ?_
  first
    | refine y (ev_ixAddr rfl rfl Tryz.underlying98 Tryz.sizeOf9 (by omega) (by omega)) rfl ?_
    | refine y (ev_ixV (by assumption) rfl rfl Tryz.underlying98 Tryz.sizeOf9 (by omega) (by omega)) rfl ?_
  refine y (ev_loadV k hv zge rfl Tryz.isAgg9 (by simp) (strsV_get ht)) rfl ?_
  refine ycallF rfl (hp _ t) rfl hcall ztk rfl ?_
  rintro v L' ⟨rfl, rfl⟩
  refine ynil' (kthn (hK9 _ _ ?_))
  clear hK9
  refine ccond rfl (fun h16 => ?_) (fun h16 => ?_)
  ·(try simp only [sH] at h16)
   have hyes : ts.any p = true := List.any_eq_true.2 ⟨t, List.mem_of_getElem? ht, h16⟩
   refine cseq ?_; intro K10 hK10
   refine creg ?_
   refine ymv ?_
   refine yas ?_
   refine ynil' (kthn (hK10 _ _ ?_))
   clear hK10
   refine cret (kbr (kthr (kthr (kbr (kthr ?_)))))
   first
     | (exfalso; omega; done)
     | (refine kretv Tryz.results119 rfl (L1 := R) zge ?_
        first
          | exact ⟨[], ⟨_, rfl, by rw [hyes]; simp, rfl⟩, rfl⟩
          | exact ⟨[], ⟨_, rfl, by rw [hno]; simp, rfl⟩, rfl⟩)
  ·(try simp only [sH] at h16)
   have hno2 : (ts.take (k + 1)).any p = false := by rw [take_snoc ht]; simp [hno, h16]
   refine cskip' (kbn (kthn (hK7 _ _ ?_)))
   clear hK7
   refine creg ?_
   refine y (ev_add rfl rfl) rfl ?_
   rw [show IntKind.i64.wrap ((k:Int) + 1) = ((k+1 : Nat) : Int) by rw [wr (by omega) (by omega)]; rfl]
   refine ymv ?_
   refine ynil' (kthn ?_)
   exact hL1 (k + 1) (⟨by omega, hno2⟩) (by omega) _ _ zsub zge
 ·(try simp only [sH] at h7)
  refine cexit (kthx (kthx (kbx (kthn ?_))))
  exact ksub zsub zge (hJ1 k ⟨hI1o, by first | trivial | omega⟩)
theorem cContainsStr [Env] {R : List Seg} {v : Value} {ts : List Bytes} {g : FuncId} {p : Bytes → Bool} (hv : RdV R v ts.length (strsV ts)) (hl : ts.length < 1000000)
   (hcall : ∀ (args : Array Value) (w : World), (callFunc g args).run Tryz.prog w = .ok (.enter g args) w) (hp : ∀ (R : List Seg) (t : Bytes), Con Tryz.prog g ([.string ⟨t.toArray⟩] ++ []) [] R (Is (.bool (p t)) [])) :
   Con Tryz.prog 105 [v, .func (.func g) #[] #[]] [] R (Is (.bool (ts.any p)) []) := by
 refine con_enter Tryz.func105 Tryz.ntmps105 rfl rfl ?_
 refine cseq ?_; intro K1 hK1
 refine creg ?_
 refine yas ?_
 refine ynil' (kthn (hK1 _ _ ?_))
 clear hK1
 refine cseq ?_; intro K2 hK2
 refine creg ?_
 refine ymv ?_
 refine ymv ?_
 refine ycall (cIndexStr ?hv24 hl hcall hp) rfl Tryz.call119 ztk rfl ?_
 case hv24 => exact hv.mono zge
 rintro v L' ⟨i7, rfl, hi7, rfl⟩
 refine y (ev_geq rfl rfl) rfl ?_
 rw [hi7]
 refine yas ?_
 refine ynil' (kthn (hK2 _ _ ?_))
 clear hK2
 refine cret ?_
 first
   | (exfalso; omega; done)
   | (refine kretv Tryz.results105 rfl (L1 := R) zge ?_
      exact ⟨_, ⟨by rfl, rfl⟩, by rfl⟩)
theorem cLong [Env] {R : List Seg} {t : Bytes} : Con Tryz.prog 106 [.string ⟨t.toArray⟩] [] R (Is (.bool (decide (200 < (t.length : Int)))) []) := by
 refine con_enter Tryz.func106 Tryz.ntmps106 rfl rfl ?_
 refine cseq ?_; intro K1 hK1
 refine creg ?_
 refine yas ?_
 refine ynil' (kthn (hK1 _ _ ?_))
 clear hK1
 refine cseq ?_; intro K2 hK2
 refine creg ?_
 refine ymv ?_
 refine y (ev_lenS rfl Tryz.underlying9) rfl ?_
 refine y (ev_gtr rfl rfl) rfl ?_
 refine yas ?_
 refine ynil' (kthn (hK2 _ _ ?_))
 clear hK2
 refine cret ?_
 first
   | (exfalso; omega; done)
   | (refine kretv Tryz.results106 rfl (L1 := R) zge ?_
      exact ⟨_, ⟨by first | rfl | (simp; done), rfl⟩, by first | rfl | (simp; done)⟩)
theorem cMay [Env] {R : List Seg} {r : RecM} {nv tv : Value} (hn : RdV R nv r.nums.length (intsV r.nums)) (ht : RdV R tv r.texts.length (strsV r.texts)) :
   Con Tryz.prog 93 [.agg #[i64 r.kind, nv, tv]] [] R (Is (.bool r.mayB) []) := by
 refine con_enter Tryz.func93 Tryz.ntmps93 rfl rfl ?_
 refine cseq ?_; intro K1 hK1
 refine creg ?_
 refine ya (ac_box rfl rfl) rfl ?_
 rintro v L' ⟨b1, rfl, rfl⟩
 refine yas ?_
 refine ynil' (kthn (hK1 _ _ ?_))
 clear hK1
 refine cseq ?_; intro K2 hK2
 refine creg ?_
 refine y (ev_fieldAddr 0 rfl Tryz.underlying126 rfl Tryz.sizeOf3) rfl ?_
 refine y (ev_load rfl Tryz.isAgg3 zin rfl) rfl ?_
 refine y (ev_geq rfl rfl) rfl ?_
 refine ymv ?_
 refine ysplit 6 rfl (fun h38 => ?_) (fun h38 => ?_)
 ·(try simp only [sH] at h38)
  refine ygo ?_
  refine y (ev_fieldAddr 0 rfl Tryz.underlying126 rfl Tryz.sizeOf3) rfl ?_
  refine ygo ?_
  refine y (ev_load rfl Tryz.isAgg3 zin rfl) rfl ?_
  refine ygo ?_
  refine y (ev_leq rfl rfl) rfl ?_
  refine ypa ?_
  refine ymv ?_
  refine ysplit 11 rfl (fun h44 => ?_) (fun h44 => ?_)
  ·(try simp only [sH] at h44)
   refine ygo ?_
   refine y (ev_fieldAddr 1 rfl Tryz.underlying126 rfl Tryz.sizeOf56) rfl ?_
   refine ygo ?_
   refine y (ev_load rfl Tryz.isAgg56 zin rfl) rfl ?_
   refine ygo ?_
   first
     | refine y (ev_len rfl Tryz.underlying56) rfl ?_
     | refine y (ev_lenSv rfl Tryz.underlying56 (by assumption)) rfl ?_
     | refine y (ev_lenV rfl Tryz.underlying56 (RdV.lenVal (by assumption))) rfl ?_
     | refine y (ev_lenV rfl Tryz.underlying56 (RdB.lenVal (by assumption))) rfl ?_
   refine ygo ?_
   refine y (ev_leq rfl rfl) rfl ?_
   refine ypa ?_
   refine ymv ?_
   refine ysplit 17 rfl (fun h51 => ?_) (fun h51 => ?_)
   ·(try simp only [sH] at h51)
    refine ygo ?_
    refine y (ev_fieldAddr 2 rfl Tryz.underlying126 rfl Tryz.sizeOf98) rfl ?_
    refine ygo ?_
    refine y (ev_load rfl Tryz.isAgg98 zin rfl) rfl ?_
    refine ygo ?_
    first
      | refine y (ev_len rfl Tryz.underlying98) rfl ?_
      | refine y (ev_lenSv rfl Tryz.underlying98 (by assumption)) rfl ?_
      | refine y (ev_lenV rfl Tryz.underlying98 (RdV.lenVal (by assumption))) rfl ?_
      | refine y (ev_lenV rfl Tryz.underlying98 (RdB.lenVal (by assumption))) rfl ?_
    refine ygo ?_
    refine y (ev_leq rfl rfl) rfl ?_
    refine ypa ?_
    refine ymv ?_
    refine ysplit 23 rfl (fun h58 => ?_) (fun h58 => ?_)
    ·(try simp only [sH] at h58)
     refine ygo ?_
     refine y (ev_fieldAddr 2 rfl Tryz.underlying126 rfl Tryz.sizeOf98) rfl ?_
     refine ygo ?_
     refine y (ev_load rfl Tryz.isAgg98 zin rfl) rfl ?_
     refine ygo ?_
     refine ycall (cContainsStr (ts := r.texts) ?hv61 (by omega) Tryz.call106 (fun R t => cLong)) rfl Tryz.call105 ztk rfl ?_
     case hv61 => exact ht.mono zge
     rintro v L' ⟨rfl, rfl⟩
     refine ygo ?_
     refine y (ev_not rfl) rfl ?_
     refine ypa ?_
     refine yas ?_
     refine ynil' (kthn (hK2 _ _ ?_))
     clear hK2
     refine cret ?_
     first
       | (exfalso; omega; done)
       | (refine kretv Tryz.results93 rfl (L1 := R) zge ?_
          exact ⟨_, ⟨by first | rfl | (simp [RecM.mayB, *]; done) | (simp_all [RecM.mayB]; done) | (simp [RecM.mayB]; intros; exfalso; omega), rfl⟩, by first | rfl | (simp [RecM.mayB, *]; done) | (simp_all [RecM.mayB]; done) | (simp [RecM.mayB]; intros; exfalso; omega)⟩)
    ·(try simp only [sH] at h58)
     refine ygz ?_
     refine ygz ?_
     refine ygz ?_
     refine ygz ?_
     refine ypb ?_
     refine yas ?_
     refine ynil' (kthn (hK2 _ _ ?_))
     clear hK2
     refine cret ?_
     first
       | (exfalso; omega; done)
       | (refine kretv Tryz.results93 rfl (L1 := R) zge ?_
          exact ⟨_, ⟨by first | rfl | (simp [RecM.mayB, *]; done) | (simp_all [RecM.mayB]; done) | (simp [RecM.mayB]; intros; exfalso; omega), rfl⟩, by first | rfl | (simp [RecM.mayB, *]; done) | (simp_all [RecM.mayB]; done) | (simp [RecM.mayB]; intros; exfalso; omega)⟩)
   ·(try simp only [sH] at h51)
    refine ygz ?_
    refine ygz ?_
    refine ygz ?_
    refine ygz ?_
    refine ypb ?_
    refine ymv ?_
    refine ygz ?_
    refine ygz ?_
    refine ygz ?_
    refine ygz ?_
    refine ypb ?_
    refine yas ?_
    refine ynil' (kthn (hK2 _ _ ?_))
    clear hK2
    refine cret ?_
    first
      | (exfalso; omega; done)
      | (refine kretv Tryz.results93 rfl (L1 := R) zge ?_
         exact ⟨_, ⟨by first | rfl | (simp [RecM.mayB, *]; done) | (simp_all [RecM.mayB]; done) | (simp [RecM.mayB]; intros; exfalso; omega), rfl⟩, by first | rfl | (simp [RecM.mayB, *]; done) | (simp_all [RecM.mayB]; done) | (simp [RecM.mayB]; intros; exfalso; omega)⟩)
  ·(try simp only [sH] at h44)
   refine ygz ?_
   refine ygz ?_
   refine ygz ?_
   refine ygz ?_
   refine ypb ?_
   refine ymv ?_
   refine ygz ?_
   refine ygz ?_
   refine ygz ?_
   refine ygz ?_
   refine ypb ?_
   refine ymv ?_
   refine ygz ?_
   refine ygz ?_
   refine ygz ?_
   refine ygz ?_
   refine ypb ?_
   refine yas ?_
   refine ynil' (kthn (hK2 _ _ ?_))
   clear hK2
   refine cret ?_
   first
     | (exfalso; omega; done)
     | (refine kretv Tryz.results93 rfl (L1 := R) zge ?_
        exact ⟨_, ⟨by first | rfl | (simp [RecM.mayB, *]; done) | (simp_all [RecM.mayB]; done) | (simp [RecM.mayB]; intros; exfalso; omega), rfl⟩, by first | rfl | (simp [RecM.mayB, *]; done) | (simp_all [RecM.mayB]; done) | (simp [RecM.mayB]; intros; exfalso; omega)⟩)
 ·(try simp only [sH] at h38)
  refine ygz ?_
  refine ygz ?_
  refine ygz ?_
  refine ypb ?_
  refine ymv ?_
  refine ygz ?_
  refine ygz ?_
  refine ygz ?_
  refine ygz ?_
  refine ypb ?_
  refine ymv ?_
  refine ygz ?_
  refine ygz ?_
  refine ygz ?_
  refine ygz ?_
  refine ypb ?_
  refine ymv ?_
  refine ygz ?_
  refine ygz ?_
  refine ygz ?_
  refine ygz ?_
  refine ypb ?_
  refine yas ?_
  refine ynil' (kthn (hK2 _ _ ?_))
  clear hK2
  refine cret ?_
  first
    | (exfalso; omega; done)
    | (refine kretv Tryz.results93 rfl (L1 := R) zge ?_
       exact ⟨_, ⟨by first | rfl | (simp [RecM.mayB, *]; done) | (simp_all [RecM.mayB]; done) | (simp [RecM.mayB]; intros; exfalso; omega), rfl⟩, by first | rfl | (simp [RecM.mayB, *]; done) | (simp_all [RecM.mayB]; done) | (simp [RecM.mayB]; intros; exfalso; omega)⟩)
theorem cHead [Env] {R : List Seg} {n t : Nat} (hn : n ≤ 16) (ht : t ≤ 4) : Con Tryz.prog 94 [i64 n, i64 t] [] R (Is (.int .u8 (headB n t).toNat) []) := by
 have h := headB_nat hn ht
 refine con_enter Tryz.func94 Tryz.ntmps94 rfl rfl ?_
 refine cseq ?_; intro K1 hK1
 refine creg ?_
 refine yas ?_
 refine ynil' (kthn (hK1 _ _ ?_))
 clear hK1
 refine cseq ?_; intro K2 hK2
 refine cseq ?_; intro K3 hK3
 refine creg ?_
 refine ymv ?_
 refine y (ev_eql rfl rfl) rfl ?_
 refine ynil' (kthn (hK3 _ _ ?_))
 clear hK3
 refine ccond rfl (fun h88 => ?_) (fun h88 => ?_)
 ·(try simp only [sH] at h88)
  refine cseq ?_; intro K4 hK4
  refine creg ?_
  refine ymv ?_
  refine y (ev_add rfl rfl) rfl ?_
  refine y (ev_conv rfl Tryz.underlying3 Tryz.underlying5) rfl ?_
  rw [wu8, wr (by omega) (by omega)]
  refine yas ?_
  refine ynil' (kthn (hK4 _ _ ?_))
  clear hK4
  refine cret (kthr ?_)
  first
    | (exfalso; omega; done)
    | (refine kretv Tryz.results94 rfl (L1 := R) zge ?_
       exact ⟨_, ⟨by first | rfl | (rw [h]; split <;> congr 1 <;> omega), rfl⟩, by first | rfl | (rw [h]; split <;> congr 1 <;> omega)⟩)
 ·(try simp only [sH] at h88)
  refine cskip' (kthn (hK2 _ _ ?_))
  clear hK2
  refine cseq ?_; intro K5 hK5
  refine creg ?_
  refine ymv ?_
  refine ymv ?_
  refine y (ev_mul rfl rfl) rfl ?_
  refine y (ev_add rfl rfl) rfl ?_
  refine y (ev_conv rfl Tryz.underlying3 Tryz.underlying5) rfl ?_
  rw [wu8, wr (by rw [wr (by omega) (by omega)]; omega) (by rw [wr (by omega) (by omega)]; omega), wr (by omega) (by omega)]
  refine yas ?_
  refine ynil' (kthn (hK5 _ _ ?_))
  clear hK5
  refine cret ?_
  first
    | (exfalso; omega; done)
    | (refine kretv Tryz.results94 rfl (L1 := R) zge ?_
       exact ⟨_, ⟨by first | rfl | (rw [h]; split <;> congr 1 <;> omega), rfl⟩, by first | rfl | (rw [h]; split <;> congr 1 <;> omega)⟩)
theorem cNum [Env] {R : List Seg} {n : Int} (h1 : -9223372036854775808 ≤ n) (h2 : n ≤ 9223372036854775807) :
   Con Tryz.prog 95 [i64 n] [] R (KSv 5 (numB (zig n)).length 1 (bytesV (numB (zig n))) []) := by
 have hz := zig_lt h1 h2
 have hl := numB_len10 hz
 refine con_enter Tryz.func95 Tryz.ntmps95 rfl rfl ?_
 refine cseq ?_; intro K1 hK1
 refine creg ?_
 refine yas ?_
 refine ynil' (kthn (hK1 _ _ ?_))
 clear hK1
 refine cseq ?_; intro K2 hK2
 refine creg ?_
 refine ymv ?_
 refine y (ev_conv rfl Tryz.underlying2 Tryz.underlying179) rfl ?_
 refine y (ev_shl rfl rfl (by first | decide | omega)) rfl ?_
 refine ymv ?_
 refine y (ev_shr rfl rfl (by first | decide | omega)) rfl ?_
 refine y (ev_conv rfl Tryz.underlying2 Tryz.underlying179) rfl ?_
 rw [show IntKind.u64.wrap (IntKind.u64.wrap n * 2 ^ (min (1 : Int).toNat IntKind.u64.bits)) = IntKind.u64.wrap (IntKind.u64.wrap n * 2) from rfl, show n.fdiv (2 ^ (min (63 : Int).toNat IntKind.i64.bits)) = n.fdiv 9223372036854775808 from rfl] at *
 refine y (ev_xor rfl rfl) rfl ?_
 rw [zig_bits h1 h2]
 refine yas ?_
 refine ynil' (kthn (hK2 _ _ ?_))
 clear hK2
 refine cseq ?_; intro K3 hK3
 refine creg ?_
 refine yas ?_
 refine ynil' (kthn (hK3 _ _ ?_))
 clear hK3
 refine cseq ?_; intro K4 hK4
 have hJ1 : ∀ x : Nat × Bytes × Sv, ((svOk x.2.2 x.2.1.length 1 (bytesV x.2.1) ∧ numB (zig n) = x.2.1 ++ numB x.1) ∧ (x.1 < 128)) → Sk 27 K4 ([(4, svVal x.2.2 x.2.1.length), (3, .int .u64 (x.1 : Nat))]) ([svSeg x.2.2 5 (bytesV x.2.1)] ++ R) := by
  rintro ⟨u, b, s⟩ ⟨hI1, hX1⟩
  refine hK4 _ _ ?_
  obtain ⟨okb, hb⟩ := hI1; dsimp only at okb hb ⊢; have hbl : b.length ≤ 10 := by rw [hb] at hl; simp at hl; omega
  dsimp only at hX1; rw [numB_last hX1] at hb
  refine cseq ?_; intro K5 hK5
  refine creg ?_
  refine ymv ?_
  refine ymv ?_
  refine y (ev_conv rfl Tryz.underlying179 Tryz.underlying5) rfl ?_
  rw [wu8, show ((u : Nat) : Int) % 256 = ((u : Nat) : Int) by omega]
  refine ya (ac_bsliceR rfl Tryz.underlying22 Tryz.sizeOf5 Tryz.zeroValue5 rfl rfl rfl rfl ⟨⟨_, _, rfl, (by first | rfl | simp), (by first | decide | simp)⟩, trivial⟩ (by dsimp [fillL, splice, vcells, reps] <;> rfl)) rfl ?_
  rintro v L' ⟨b25, rfl, rfl⟩
  refine ya (ac_append (xs := bytesV b) (m := b.length) (k := 1) (us := [.int .u8 ((u : Nat) : Int)]) (size := 1) rfl rfl (by repeat first | exact .z | apply Pk.s) Tryz.underlying22 Tryz.underlying22 (by intro q hq; cases hq) Tryz.typeInfo5 rfl rfl rfl ?ok113 ?src113 ?one113 ?big113) rfl ?_
  case ok113 => exact okb
  case src113 => exact src_at zin rfl rfl
  case one113 => simp [Value.oneCell']
  case big113 => show (b.length + 1) * 2 ≤ _; omega
  rintro v L' ⟨s26, rfl, ok26, rfl⟩
  have hlen : b.length + 1 = (numB (zig n)).length := by rw [hb]; simp
  rw [bytesV_snoc _ _ (by omega), ← hb, hlen] at ok26 ⊢
  refine yas ?_
  refine ynil' (kthn (hK5 _ _ ?_))
  clear hK5
  refine cret ?_
  first
    | (exfalso; omega; done)
    | (refine kretv Tryz.results95 rfl (L1 := [svSeg _ _ _] ++ R) zge ?_
       exact ⟨_, ⟨s26, rfl, ok26, rfl⟩, rfl⟩)
 clear hK4
 refine cblock ?_
 refine cloop (A := Nat × Bytes × Sv) (fun x => [(4, svVal x.2.2 x.2.1.length), (3, .int .u64 (x.1 : Nat))]) (fun x => [svSeg x.2.2 5 (bytesV x.2.1)] ++ R) (fun x => svOk x.2.2 x.2.1.length 1 (bytesV x.2.1) ∧ numB (zig n) = x.2.1 ++ numB x.1) (fun x => x.1) ((zig n, [], none)) ?_ zsub zge ?_
 · exact ⟨⟨rfl, rfl⟩, rfl⟩
 rintro ⟨u, b, s⟩ hI1 KL1 hL1
 have hI1o := hI1
 obtain ⟨okb, hb⟩ := hI1; dsimp only at okb hb ⊢; have hbl : b.length ≤ 10 := by rw [hb] at hl; simp at hl; omega
 refine cseq ?_; intro K6 hK6
 refine cseq ?_; intro K7 hK7
 refine creg ?_
 refine ymv ?_
 refine y (ev_gtr rfl rfl) rfl ?_
 refine ynil' (kthn (hK7 _ _ ?_))
 clear hK7
 refine ccond rfl (fun h117 => ?_) (fun h117 => ?_)
 ·(try simp only [sH] at h117)
  refine cskip' (kthn (hK6 _ _ ?_))
  clear hK6
  refine cblock ?_
  refine cseq ?_; intro K8 hK8
  refine creg ?_
  refine ymv ?_
  refine ymv ?_
  refine y (ev_conv rfl Tryz.underlying179 Tryz.underlying5) rfl ?_
  rw [wu8, show ((u : Nat) : Int) % 256 = ((u % 256 : Nat) : Int) by omega]
  refine y (ev_or rfl rfl) rfl ?_
  rw [or128 (by omega), show u % 256 % 128 + 128 = u % 128 + 128 by omega]
  refine ya (ac_bsliceR rfl Tryz.underlying22 Tryz.sizeOf5 Tryz.zeroValue5 rfl rfl rfl rfl ⟨⟨_, _, rfl, (by first | rfl | simp), (by first | decide | simp)⟩, trivial⟩ (by dsimp [fillL, splice, vcells, reps] <;> rfl)) rfl ?_
  rintro v L' ⟨b18, rfl, rfl⟩
  refine ya (ac_append (xs := bytesV b) (m := b.length) (k := 1) (us := [.int .u8 ((u % 128 + 128 : Nat) : Int)]) (size := 1) rfl rfl (by repeat first | exact .z | apply Pk.s) Tryz.underlying22 Tryz.underlying22 (by intro q hq; cases hq) Tryz.typeInfo5 rfl rfl rfl ?ok123 ?src123 ?one123 ?big123) rfl ?_
  case ok123 => exact okb
  case src123 => exact src_at zin rfl rfl
  case one123 => simp [Value.oneCell']
  case big123 => show (b.length + 1) * 2 ≤ _; omega
  rintro v L' ⟨s19, rfl, ok19, rfl⟩
  rw [bytesV_snoc _ _ (by omega)] at ok19 ⊢
  refine yas ?_
  refine ynil' (kthn (hK8 _ _ ?_))
  clear hK8
  refine creg ?_
  refine ymv ?_
  refine y (ev_shr rfl rfl (by first | decide | omega)) rfl ?_
  rw [show ((u : Nat) : Int).fdiv (2 ^ (min (7 : Int).toNat IntKind.u64.bits)) = ((u / 128 : Nat) : Int) from fdiv2 (k := 128)]
  refine yas ?_
  refine ynil' (kbn (kthn ?_))
  exact ksub zsub zge (hL1 (u / 128, b ++ [UInt8.ofNat (u % 128 + 128)], s19) ⟨by rw [List.length_append]; exact ok19, by rw [hb, numB_more (by omega)]; simp⟩ (by dsimp only; omega) [(4, svVal s19 (b ++ [UInt8.ofNat (u % 128 + 128)]).length), (3, .int .u64 ((u / 128 : Nat) : Int))] _ zsub .refl)
 ·(try simp only [sH] at h117)
  refine cexit (kthx (kthx (kbx (kthn ?_))))
  exact ksub zsub zge (hJ1 ⟨u, b, s⟩ ⟨hI1o, by dsimp only; omega⟩)
end W
end Go.Proofs
