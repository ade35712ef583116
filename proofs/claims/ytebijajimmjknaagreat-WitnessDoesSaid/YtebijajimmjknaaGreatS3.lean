/- A part of the proof: contracts and plain lemmas, each without conditions beyond those that it names. -/
import Derived.Test.YtebijajimmjknaaGreatS2
import Derived.Test.YtebijajimmjknaaGreatGC
set_option linter.unusedVariables false
set_option linter.unusedSimpArgs false
set_option linter.constructorNameAsVariable false
namespace Go.Proofs
open Go Go.Sl
namespace W
set_option linter.unusedVariables false
theorem crash [Env] {R : List Seg} {p la m : Nat} {D : Dev} {kv : Value} {ks : Keeps} (hD : D.ok) (hk : RdV R kv ks.length (keepsV ks)) :
    Con Tryz.prog 15 [ptr p, kv] (devS p la m D) R (Is (.tuple #[]) (devS p la m (D.crash ks))) := by
  have hle := es_le hD
  refine con_enter Tryz.func15 Tryz.ntmps15 rfl rfl ?_
  show Sc _ _ _ _ _ (devP p la m D :: devL la D :: devM m D :: R)
  refine cseq ?_; intro K1 hK1
  refine cseq ?_; intro K2 hK2
  refine creg ?_
  refine y (ev_move rfl) rfl ?_
  refine ycall (pending ?ok2) rfl Tryz.call55 ztk rfl ?_
  case ok2 => exact hD
  rintro v L' ⟨s8, rfl, ok8, rfl⟩
  first
    | refine y (ev_len rfl Tryz.underlying111) rfl ?_
    | refine y (ev_lenSv rfl Tryz.underlying111 (by assumption)) rfl ?_
    | refine y (ev_lenV rfl Tryz.underlying111 (RdV.lenVal (by assumption))) rfl ?_
    | refine y (ev_lenV rfl Tryz.underlying111 (RdB.lenVal (by assumption))) rfl ?_
  refine y (ev_move rfl) rfl ?_
  refine ynil' (kthn (hK2 _ _ ?_))
  clear hK2
  refine cblock ?_
  refine cloop (A := Nat × List Bytes) (fun x => [(10, i64 x.1), (9, i64 D.es.length), (8, svVal s8 D.es.length), (0, ptr p), (1, kv)]) (fun x => [devP p la m D, sc la (flat x.2) 114, devM m D, svSeg s8 3 (intsV D.pending)] ++ R) (fun x => (∀ s ∈ x.2, s.length = 144) ∧ x.2.length = D.l.length ∧ x.1 ≤ D.es.length ∧ crashL D (D.pending.drop x.1) (ks.drop x.1) x.2 = crashL D D.pending ks D.l) (fun x => D.es.length - x.1) ((0, D.l)) ?_ zsub zge ?_
  · exact ⟨hD.sec, rfl, Nat.zero_le _, rfl⟩
  rintro ⟨k, ls⟩ hI1 KL1 hL1
  obtain ⟨hls, hll, hkl, hcr⟩ := hI1; dsimp only at hls hll hkl hcr ⊢; unfold devP devM
  have hp8 : RdV [svSeg s8 3 (intsV D.pending)] (svVal s8 D.es.length) D.es.length (intsV D.pending) := rdV_sv .z ok8
  refine cseq ?_; intro K3 hK3
  refine creg ?_
  refine y (ev_lss rfl rfl) rfl ?_
  refine ynil' (kthn (hK3 _ _ ?_))
  clear hK3
  refine cseq ?_; intro K4 hK4
  refine ccond rfl (fun h6 => ?_) (fun h6 => ?_)
  ·(try simp only [sH] at h6)
   obtain ⟨i, s, o0, hi, hs, hi0, hi1, hs1, -⟩ := pend_get hD (k := k) (by omega); obtain ⟨old, ho⟩ := at_some hi0 (hll ▸ hi1)
   have ho1 := hls _ (List.mem_of_getElem? ho)
   refine cskip' (kthn (hK4 _ _ ?_))
   clear hK4
   refine cseq ?_; intro K5 hK5
   refine cblock ?_
   refine cseq ?_; intro K6 hK6
   refine creg ?_
   refine y (ev_move rfl) rfl ?_
   first
     | refine y (ev_ixAddr rfl rfl Tryz.underlying111 Tryz.sizeOf3 (by omega) (by omega)) rfl ?_
     | refine y (ev_ixV (by assumption) rfl rfl Tryz.underlying111 Tryz.sizeOf3 (by omega) (by omega)) rfl ?_
   refine y (ev_loadV k hp8 zge rfl Tryz.isAgg3 (by simp) (intsV_get hi)) rfl ?_
   refine y (ev_assign rfl) rfl ?_
   refine y (ev_assign rfl) rfl ?_
   refine ynil' (kthn (hK6 _ _ ?_))
   clear hK6
   refine cseq ?_; intro K7 hK7
   refine cseq ?_; intro K8 hK8
   refine creg ?_
   refine y (ev_move rfl) rfl ?_
   refine y (ev_move rfl) rfl ?_
   first
     | refine y (ev_len rfl Tryz.underlying38) rfl ?_
     | refine y (ev_lenSv rfl Tryz.underlying38 (by assumption)) rfl ?_
     | refine y (ev_lenV rfl Tryz.underlying38 (RdV.lenVal (by assumption))) rfl ?_
     | refine y (ev_lenV rfl Tryz.underlying38 (RdB.lenVal (by assumption))) rfl ?_
   refine y (ev_geq rfl rfl) rfl ?_
   refine ynil' (kthn (hK8 _ _ ?_))
   clear hK8
   refine ccond rfl (fun h16 => ?_) (fun h16 => ?_)
   ·(try simp only [sH] at h16)
    have hfin : crashL D D.pending ks D.l = ls := by rw [← hcr, show ks.drop k = [] from List.drop_eq_nil_of_le (by omega), crashL_nil']
    refine cexit (kthx (kbp rfl (kthx (kthx (kbx (kthn (hK1 _ _ ?_)))))))
    clear hK1
    refine creg ?_
    refine y (ev_move rfl) rfl ?_
    refine ycall (up) rfl Tryz.call56 ztk rfl ?_
    rintro v L' ⟨rfl, rfl⟩
    refine ynil' ?_
    first
      | (exfalso; omega; done)
      | (refine kendv0 Tryz.results15 (L1 := [sc p _ _, sc la _ _, so m _] ++ R) zge ?_
         exact ⟨_, ⟨by simp [Dev.crash, Dev.up, devP, devL, devM, *], rfl⟩, by simp [Dev.crash, Dev.up, devP, devL, devM, *]⟩)
   ·(try simp only [sH] at h16)
    obtain ⟨x, hx⟩ : ∃ x, ks[k]? = some x := ⟨_, List.getElem?_eq_getElem (by omega)⟩
    obtain ⟨hx1, hx2⟩ := keepsV_get ks k x hx
    have hst := crashL_step hi hx hs ho hcr
    refine cskip' (kthn (hK7 _ _ ?_))
    clear hK7
    refine cseq ?_; intro K9 hK9
    refine creg ?_
    refine y (ev_move rfl) rfl ?_
    refine y (ev_nil rfl) rfl ?_
    refine y (ev_fieldAddr 1 rfl Tryz.underlying83 rfl Tryz.sizeOf81) rfl ?_
    refine y (ev_load rfl Tryz.isAgg81 zin rfl) rfl ?_
    refine y (ev_move rfl) rfl ?_
    refine y (ev_lookups (by rw [kvs_get, hs]; rfl) rfl rfl Tryz.underlying81 Tryz.underlying3 Tryz.zeroValue114 zin) rfl ?_
    refine ya (ac_alloc (vs := bytesV zsec) Tryz.zeroValue114 Tryz.zc) rfl ?_
    rintro v L' ⟨b6, rfl, rfl⟩
    refine ya0 (ac_storeAll rfl rfl (by first | exact bytesV_one _ | (simp [Value.oneCell']; done) | (simp only [List.forall_mem_cons, List.not_mem_nil, false_implies, implies_true, svVal_one, and_true, true_and, and_self]; first | done | simp [Value.oneCell'])) Tryz.sizeOf114 zrp (by first | rfl | assumption | (simp [*]; done) | (simp [*]; omega)) (by first | rfl | assumption | (simp [*]; done) | (simp [*]; omega))) ?_
    rintro v L' ⟨rfl, rfl⟩
    refine ynil' (kthn (hK9 _ _ ?_))
    clear hK9
    refine cseq ?_; intro K10 hK10
    refine creg ?_
    refine y (ev_move rfl) rfl ?_
    refine y (ev_move rfl) rfl ?_
    first
      | refine y (ev_ixAddr rfl rfl Tryz.underlying38 Tryz.sizeOf116 (by omega) (by omega)) rfl ?_
      | refine y (ev_ixV (by assumption) rfl rfl Tryz.underlying38 Tryz.sizeOf116 (by omega) (by omega)) rfl ?_
    refine y (ev_fieldAddr 0 rfl Tryz.underlying116 rfl Tryz.sizeOf3) rfl ?_
    refine y (ev_loadV (k * 2) hk zge rfl Tryz.isAgg3 (by simp) hx1) rfl ?_
    refine ynil' (kthn (hK10 _ _ ?_))
    clear hK10
    refine cblock ?_
    refine cseq ?_; intro K11 hK11
    refine creg ?_
    refine y (ev_eql rfl rfl) rfl ?_
    refine y (ev_assign rfl) rfl ?_
    refine ynil' (kthn (hK11 _ _ ?_))
    clear hK11
    refine ccond rfl (fun h34 => ?_) (fun h34 => ?_)
    ·(try simp only [sH] at h34)
     refine cdraw 7 [(0, true), (1, true), (2, true), (3, true), (4, true), (5, true), (6, true)] (_) Tryz.mixed (by kernel_rfl) .refl ?_
     refine hr rfl (ev_move rfl) rfl ?_
     refine hr rfl (ev_nil rfl) rfl ?_
     refine hr rfl (ev_fieldAddr 0 rfl Tryz.underlying83 rfl Tryz.sizeOf80) rfl ?_
     refine hr rfl (ev_load rfl Tryz.isAgg80 zin rfl) rfl ?_
     refine hr rfl (ev_move rfl) rfl ?_
     refine hr rfl (ev_loadAll rfl Tryz.isAgg114 Tryz.sizeOf114 zin (by first | rfl | assumption | (simp [*]; done) | (simp [*]; omega))) rfl ?_
     first
       | refine hr rfl (ev_ixAddr rfl rfl Tryz.underlying80 Tryz.sizeOf114 (by omega) (by omega)) rfl ?_
       | refine hr rfl (ev_ixV (by assumption) rfl rfl Tryz.underlying80 Tryz.sizeOf114 (by omega) (by omega)) rfl ?_
     refine hnil ?_
     refine ya0 (ac_storeN (vs' := flat (ls.set i.toNat s)) rfl rfl (bytesV_one _) Tryz.sizeOf114 zrp (by simp [hs1]) (by rw [flat_length hls]; omega) (by rw [Nat.zero_add]; exact flat_set hls (by omega))) ?_; rintro v L' ⟨rfl, rfl⟩
     refine hnoP' (kbn (kbn (kthn (hK5 _ _ ?_))))
     clear hK5
     refine creg ?_
     refine y (ev_add rfl rfl) rfl ?_
     rw [show IntKind.i64.wrap ((k:Int) + 1) = ((k+1 : Nat) : Int) by rw [wr (by omega) (by omega)]; rfl]
     refine y (ev_move rfl) rfl ?_
     refine ynil' (kthn ?_)
     first
       | exact hL1 (k + 1, ls.set i.toNat s) ⟨set_len hls hs1, by simpa using hll, by dsimp only; omega, by rwa [keep1_a (by assumption)] at hst⟩ (by dsimp only; omega) _ _ zsub zge
       | exact hL1 (k + 1, ls) ⟨hls, hll, by dsimp only; omega, by rwa [keep1_c (by assumption) (by assumption), set_same ho] at hst⟩ (by dsimp only; omega) _ _ zsub zge
       | exact hL1 (k + 1, ls.set i.toNat (s.take (torn x.2) ++ old.drop (torn x.2))) ⟨set_len hls (by simp [hs1, ho1]; unfold torn; omega), by simpa using hll, by dsimp only; omega, by rwa [keep1_b (by assumption)] at hst⟩ (by dsimp only; omega) _ _ zsub zge
    ·(try simp only [sH] at h34)
     refine cseq ?_; intro K12 hK12
     refine creg ?_
     refine y (ev_eql rfl rfl) rfl ?_
     refine y (ev_assign rfl) rfl ?_
     refine ynil' (kthn (hK12 _ _ ?_))
     clear hK12
     refine ccond rfl (fun h47 => ?_) (fun h47 => ?_)
     ·(try simp only [sH] at h47)
      refine cdraw 15 [(0, true), (1, true), (2, true), (3, true), (4, true), (5, true), (6, true), (7, true), (8, true), (9, true), (10, true), (11, true), (12, true), (13, true), (14, true)] (_) Tryz.mixed (by kernel_rfl) .refl ?_
      refine hr rfl (ev_move rfl) rfl ?_
      refine hr rfl (ev_nil rfl) rfl ?_
      refine hr rfl (ev_fieldAddr 0 rfl Tryz.underlying83 rfl Tryz.sizeOf80) rfl ?_
      refine hr rfl (ev_load rfl Tryz.isAgg80 zin rfl) rfl ?_
      refine hr rfl (ev_move rfl) rfl ?_
      first
        | refine hr rfl (ev_ixAddr rfl rfl Tryz.underlying80 Tryz.sizeOf114 (by omega) (by omega)) rfl ?_
        | refine hr rfl (ev_ixV (by assumption) rfl rfl Tryz.underlying80 Tryz.sizeOf114 (by omega) (by omega)) rfl ?_
      refine hr rfl (ev_slA rfl Tryz.underlying114 Tryz.sizeOf5) rfl ?_
      refine hr rfl (ev_move rfl) rfl ?_
      refine hr rfl (ev_move rfl) rfl ?_
      first
        | refine hr rfl (ev_ixAddr rfl rfl Tryz.underlying38 Tryz.sizeOf116 (by omega) (by omega)) rfl ?_
        | refine hr rfl (ev_ixV (by assumption) rfl rfl Tryz.underlying38 Tryz.sizeOf116 (by omega) (by omega)) rfl ?_
      refine hr rfl (ev_fieldAddr 1 rfl Tryz.underlying116 rfl Tryz.sizeOf3) rfl ?_
      refine hr rfl (ev_loadV (k * 2 + 1) hk zge rfl Tryz.isAgg3 (by simp; omega) hx2) rfl ?_
      refine hr rfl (ev_max rfl rfl) rfl ?_
      refine hr rfl (ev_min rfl rfl) rfl ?_
      refine hr rfl (ev_slAh rfl rfl Tryz.underlying114 Tryz.sizeOf5 (by omega) (by omega)) rfl ?_
      refine hnil ?_
      refine ya (ac_copyB (bs := s.take (torn x.2)) (k := torn x.2) (vs' := flat (ls.set i.toNat (s.take (torn x.2) ++ old.drop (torn x.2)))) rfl rfl Tryz.underlying50 Tryz.sizeOf5 ?rd63 ?kk63 zrp ?fit63 ?eq63) rfl ?_
      case rd63 => exact rdB_torn hs1 zin
      case kk63 => have := torn_le x.2; simp [hs1]; omega
      case fit63 => have := torn_le x.2; rw [flat_length hls]; omega
      case eq63 => rw [Nat.zero_add]; exact flat_torn hls ho hs1 (torn_le _)
      rintro v L' ⟨rfl, rfl⟩
      refine hnoP' (kbn (kbn (kthn (hK5 _ _ ?_))))
      clear hK5
      refine creg ?_
      refine y (ev_add rfl rfl) rfl ?_
      rw [show IntKind.i64.wrap ((k:Int) + 1) = ((k+1 : Nat) : Int) by rw [wr (by omega) (by omega)]; rfl]
      refine y (ev_move rfl) rfl ?_
      refine ynil' (kthn ?_)
      first
        | exact hL1 (k + 1, ls.set i.toNat s) ⟨set_len hls hs1, by simpa using hll, by dsimp only; omega, by rwa [keep1_a (by assumption)] at hst⟩ (by dsimp only; omega) _ _ zsub zge
        | exact hL1 (k + 1, ls) ⟨hls, hll, by dsimp only; omega, by rwa [keep1_c (by assumption) (by assumption), set_same ho] at hst⟩ (by dsimp only; omega) _ _ zsub zge
        | exact hL1 (k + 1, ls.set i.toNat (s.take (torn x.2) ++ old.drop (torn x.2))) ⟨set_len hls (by simp [hs1, ho1]; unfold torn; omega), by simpa using hll, by dsimp only; omega, by rwa [keep1_b (by assumption)] at hst⟩ (by dsimp only; omega) _ _ zsub zge
     ·(try simp only [sH] at h47)
      refine cskip' (kbn (kbn (kthn (hK5 _ _ ?_))))
      clear hK5
      refine creg ?_
      refine y (ev_add rfl rfl) rfl ?_
      rw [show IntKind.i64.wrap ((k:Int) + 1) = ((k+1 : Nat) : Int) by rw [wr (by omega) (by omega)]; rfl]
      refine y (ev_move rfl) rfl ?_
      refine ynil' (kthn ?_)
      first
        | exact hL1 (k + 1, ls.set i.toNat s) ⟨set_len hls hs1, by simpa using hll, by dsimp only; omega, by rwa [keep1_a (by assumption)] at hst⟩ (by dsimp only; omega) _ _ zsub zge
        | exact hL1 (k + 1, ls) ⟨hls, hll, by dsimp only; omega, by rwa [keep1_c (by assumption) (by assumption), set_same ho] at hst⟩ (by dsimp only; omega) _ _ zsub zge
        | exact hL1 (k + 1, ls.set i.toNat (s.take (torn x.2) ++ old.drop (torn x.2))) ⟨set_len hls (by simp [hs1, ho1]; unfold torn; omega), by simpa using hll, by dsimp only; omega, by rwa [keep1_b (by assumption)] at hst⟩ (by dsimp only; omega) _ _ zsub zge
  ·(try simp only [sH] at h6)
   have hfin : crashL D D.pending ks D.l = ls := by rw [← hcr, show D.pending.drop k = [] from List.drop_eq_nil_of_le (by rw [pending_length]; omega), crashL_nil]
   refine cexit (kthx (kthx (kbx (kthn (hK1 _ _ ?_)))))
   clear hK1
   refine creg ?_
   refine y (ev_move rfl) rfl ?_
   refine ycall (up) rfl Tryz.call56 ztk rfl ?_
   rintro v L' ⟨rfl, rfl⟩
   refine ynil' ?_
   first
     | (exfalso; omega; done)
     | (refine kendv0 Tryz.results15 (L1 := [sc p _ _, sc la _ _, so m _] ++ R) zge ?_
        exact ⟨_, ⟨by simp [Dev.crash, Dev.up, devP, devL, devM, *], rfl⟩, by simp [Dev.crash, Dev.up, devP, devL, devM, *]⟩)
end W
end Go.Proofs
