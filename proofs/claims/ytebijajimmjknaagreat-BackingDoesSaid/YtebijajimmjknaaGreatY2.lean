/- A part of the proof: contracts and plain lemmas, each without conditions beyond those that it names. -/
import Derived.Test.YtebijajimmjknaaGreatY1
import Derived.Test.YtebijajimmjknaaGreatGE
set_option linter.unusedVariables false
set_option linter.unusedSimpArgs false
set_option linter.constructorNameAsVariable false
namespace Go.Proofs
open Go Go.Sl
namespace W
set_option linter.unusedVariables false
theorem refCrash [Env] {R : List Seg} {p la : Nat} {D : RDev} {kv : Value} {ks : Keeps} (hD : D.ok) (hkk : RdV R kv ks.length (keepsV ks)) :
   Con Tryz.prog 16 [ptr p, kv] [rP p la D, rL la D] R (Is (.tuple #[]) [rP p la (D.crash ks), rL la (D.crash ks)]) := by
 have hn := hD.n
 refine con_enter Tryz.func16 Tryz.ntmps16 rfl rfl ?_
 unfold rP rL
 refine cseq ?_; intro K1 hK1
 refine creg ?_
 refine yas ?_
 refine ynil' (kthn (hK1 _ _ ?_))
 clear hK1
 refine cseq ?_; intro K2 hK2
 refine cseq ?_; intro K3 hK3
 refine creg ?_
 refine yas ?_
 refine ynil' (kthn (hK3 _ _ ?_))
 clear hK3
 have hJ1 : ∀ x : Nat, ((x ≤ D.l.length) ∧ (x = D.l.length)) → Sk 107 K2 ([(5, i64 x), (4, i64 (cnt (D.l.take x))), (0, ptr p), (1, kv)]) ([sc p [.slice (some ⟨la, 0, none⟩) D.l.length D.l.length, .bool D.dead, .int .i64 D.fuse] 86, sc la (rflat (crashTo D.l ks x)) 118] ++ R) := by
  rintro k ⟨hI1, hX1⟩
  refine hK2 _ _ ?_
  have hk := hI1
  subst hX1; rw [crashTo_all]
  refine cseq ?_; intro K4 hK4
  refine creg ?_
  refine ymv ?_
  refine yni ?_
  refine y (ev_fieldAddr 1 rfl Tryz.underlying86 rfl Tryz.sizeOf4) rfl ?_
  refine ya0 (ac_store rfl rfl (by first | rfl | exact svVal_one _ _ | assumption) Tryz.sizeOf4 zrp rfl rfl) ?_
  rintro v L' ⟨rfl, rfl⟩
  refine ynil' (kthn (hK4 _ _ ?_))
  clear hK4
  refine creg ?_
  refine ymv ?_
  refine yni ?_
  refine y (ev_fieldAddr 2 rfl Tryz.underlying86 rfl Tryz.sizeOf3) rfl ?_
  refine ya0 (ac_store rfl rfl (by first | rfl | exact svVal_one _ _ | assumption) Tryz.sizeOf3 zrp rfl rfl) ?_
  rintro v L' ⟨rfl, rfl⟩
  refine ynil' ?_
  first
    | (exfalso; omega; done)
    | (refine kendv0 Tryz.results16 (L1 := _) zge ?_
       exact ⟨_, ⟨by first | rfl | (simp [RDev.crash, crashF_len, *]; done), rfl⟩, by first | rfl | (simp [RDev.crash, crashF_len, *]; done)⟩)
 clear hK2
 refine cblock ?_
 refine cloop (A := Nat) (fun x => [(5, i64 x), (4, i64 (cnt (D.l.take x))), (0, ptr p), (1, kv)]) (fun x => [sc p [.slice (some ⟨la, 0, none⟩) D.l.length D.l.length, .bool D.dead, .int .i64 D.fuse] 86, sc la (rflat (crashTo D.l ks x)) 118] ++ R) (fun x => x ≤ D.l.length) (fun x => D.l.length - x) (0) ?_ zsub zge ?_
 · exact Nat.zero_le _
 rintro k hI1 KL1 hL1
 have hI1o := hI1
 have hk := hI1
 refine cseq ?_; intro K5 hK5
 refine cseq ?_; intro K6 hK6
 refine creg ?_
 refine ymv ?_
 refine ymv ?_
 refine yni ?_
 refine y (ev_fieldAddr 0 rfl Tryz.underlying86 rfl Tryz.sizeOf84) rfl ?_
 refine y (ev_load rfl Tryz.isAgg84 zin rfl) rfl ?_
 first
   | refine y (ev_len rfl Tryz.underlying84) rfl ?_
   | refine y (ev_lenSv rfl Tryz.underlying84 (by assumption)) rfl ?_
   | refine y (ev_lenV rfl Tryz.underlying84 (RdV.lenVal (by assumption))) rfl ?_
   | refine y (ev_lenV rfl Tryz.underlying84 (RdB.lenVal (by assumption))) rfl ?_
 refine y (ev_lss rfl rfl) rfl ?_
 refine ynil' (kthn (hK6 _ _ ?_))
 clear hK6
 refine ccond rfl (fun h18 => ?_) (fun h18 => ?_)
 ·(try simp only [sH] at h18)
  obtain ⟨r, hrr⟩ : ∃ r, D.l[k]? = some r := ⟨_, List.getElem?_eq_getElem (by omega)⟩
  have hro := hD.sec r (List.mem_of_getElem? hrr)
  have hsk := crashTo_ok hD.sec ks k
  have hgt := crashTo_get (ks := ks) hrr
  have hsl := crashTo_len D.l ks k
  have hsu := crashTo_succ (ks := ks) hrr
  have hcs := cnt_succ hrr
  refine cskip' (kthn (hK5 _ _ ?_))
  clear hK5
  refine cseq ?_; intro K7 hK7
  refine cblock ?_
  refine cseq ?_; intro K8 hK8
  refine cseq ?_; intro K9 hK9
  refine creg ?_
  refine ymv ?_
  refine yni ?_
  refine y (ev_fieldAddr 0 rfl Tryz.underlying86 rfl Tryz.sizeOf84) rfl ?_
  refine y (ev_load rfl Tryz.isAgg84 zin rfl) rfl ?_
  refine ymv ?_
  first
    | refine y (ev_ixAddr rfl rfl Tryz.underlying84 Tryz.sizeOf118 (by omega) (by omega)) rfl ?_
    | refine y (ev_ixV (by assumption) rfl rfl Tryz.underlying84 Tryz.sizeOf118 (by omega) (by omega)) rfl ?_
  refine y (ev_fieldAddr 288 rfl Tryz.underlying118 rfl Tryz.sizeOf4) rfl ?_
  refine y (ev_load rfl Tryz.isAgg4 zin (by rw [show 0 + (k : Int).toNat * 289 + 288 = k * 289 + 288 by simp, rflat_get hsk hgt (by omega)]; exact rsV_is hro)) rfl ?_
  refine y (ev_not rfl) rfl ?_
  refine ynil' (kthn (hK9 _ _ ?_))
  clear hK9
  refine ccond rfl (fun h28 => ?_) (fun h28 => ?_)
  ·(try simp only [sH] at h28)
   have hcs' : cnt (D.l.take (k + 1)) = cnt (D.l.take k) := by rw [hcs]; simp_all
   have hse : crash1 r ks[cnt (D.l.take k)]? = r := by unfold crash1; rw [if_neg (by simp_all)]
   rw [hse, set_same hgt] at hsu
   rw [hsu, ← hcs']
   refine cexit (kthx (kbx (kthn (hK7 _ _ ?_))))
   clear hK7
   refine creg ?_
   refine ymv ?_
   refine y (ev_add rfl rfl) rfl ?_
   rw [show IntKind.i64.wrap ((k:Int) + 1) = ((k+1 : Nat) : Int) by rw [wr (by omega) (by omega)]; rfl]
   refine yas ?_
   refine ynil' (kthn ?_)
   exact hL1 (k + 1) ((show k + 1 ≤ D.l.length by omega)) (by omega) _ _ zsub zge
  ·(try simp only [sH] at h28)
   have hri : r.is = true := by simp_all
   refine cskip' (kthn (hK8 _ _ ?_))
   clear hK8
   refine cseq ?_; intro K10 hK10
   refine creg ?_
   refine ymv ?_
   refine yni ?_
   refine y (ev_fieldAddr 0 rfl Tryz.underlying86 rfl Tryz.sizeOf84) rfl ?_
   refine y (ev_load rfl Tryz.isAgg84 zin rfl) rfl ?_
   refine ymv ?_
   first
     | refine y (ev_ixAddr rfl rfl Tryz.underlying84 Tryz.sizeOf118 (by omega) (by omega)) rfl ?_
     | refine y (ev_ixV (by assumption) rfl rfl Tryz.underlying84 Tryz.sizeOf118 (by omega) (by omega)) rfl ?_
   refine y (ev_fieldAddr 0 rfl Tryz.underlying118 rfl Tryz.sizeOf113) rfl ?_
   refine y (ev_loadN (u := bytesV r.b) rfl Tryz.isAgg113 Tryz.sizeOf113 zin (by rw [show 0 + (k : Int).toNat * 289 + 0 = k * 289 + 0 by simp, rflat_slice hsk hgt (by omega)]; exact rsV_b hro) (by simp [hro.1])) rfl ?_
   refine ya (ac_alloc (vs := bytesV zsec) Tryz.zeroValue113 Tryz.zrz) rfl ?_
   rintro v L' ⟨b6, rfl, rfl⟩
   refine ya0 (ac_storeAll rfl rfl (bytesV_one _) Tryz.sizeOf113 zrp (by simp [hro.1]) (by simp [hro.1])) ?_
   rintro v L' ⟨rfl, rfl⟩
   refine ynil' (kthn (hK10 _ _ ?_))
   clear hK10
   refine cseq ?_; intro K11 hK11
   have hJr8 : ∀ x : Bytes, (x = (match ks[cnt (D.l.take k)]? with | some q => if q.1 = 1 then r.p else r.b | none => r.b)) → Sk 107 K11 ([(6, ptr b6), (5, i64 k), (4, i64 (cnt (D.l.take k))), (0, ptr p), (1, kv)]) ([sc b6 (bytesV x) 113, sc p [.slice (some ⟨la, 0, none⟩) D.l.length D.l.length, .bool D.dead, .int .i64 D.fuse] 86, sc la (rflat (crashTo D.l ks k)) 118] ++ R) := by
    rintro x hIr8
    refine hK11 _ _ ?_
    have hx8 := hIr8
    refine cseq ?_; intro K12 hK12
    have hJr13 : ∀ x : Bytes, (x.length = 144 ∧ (⟨x, zsec, false⟩ : RS) = crash1 r ks[cnt (D.l.take k)]?) → Sk 107 K12 ([(6, ptr b6), (5, i64 k), (4, i64 (cnt (D.l.take k))), (0, ptr p), (1, kv)]) ([sc b6 (bytesV x) 113, sc p [.slice (some ⟨la, 0, none⟩) D.l.length D.l.length, .bool D.dead, .int .i64 D.fuse] 86, sc la (rflat (crashTo D.l ks k)) 118] ++ R) := by
     rintro x hIr13
     refine hK12 _ _ ?_
     obtain ⟨hx, hxc⟩ := hIr13
     refine cseq ?_; intro K13 hK13
     refine cdraw 8 [(0, true), (1, true), (2, true), (3, true), (4, true), (5, true), (6, true), (7, true)] (_) Tryz.mixed (by kernel_rfl) .refl ?_
     refine hr rfl (ev_move rfl) rfl ?_
     refine hr rfl (ev_nil rfl) rfl ?_
     refine hr rfl (ev_fieldAddr 0 rfl Tryz.underlying86 rfl Tryz.sizeOf84) rfl ?_
     refine hr rfl (ev_load rfl Tryz.isAgg84 zin rfl) rfl ?_
     refine hr rfl (ev_move rfl) rfl ?_
     refine hr rfl (ev_loadAll rfl Tryz.isAgg113 Tryz.sizeOf113 zin (by rw [bytesV_length]; exact hx)) rfl ?_
     refine hr rfl (ev_build (zs := rsV zrs) (vs := rsV ⟨x, zsec, false⟩) rfl Tryz.underlying118 Tryz.zeroValue118 Tryz.zrc (.cons Tryz.sizeOf113 (.cons Tryz.sizeOf113 (.cons Tryz.sizeOf4 .nil))) ⟨⟨_, _, rfl, (by simp [vcells, hx]), (by rw [zrsL]; decide)⟩, trivial⟩ (build_b hx)) rfl ?_
     first
       | refine hr rfl (ev_ixAddr rfl rfl Tryz.underlying84 Tryz.sizeOf118 (by omega) (by omega)) rfl ?_
       | refine hr rfl (ev_ixV (by assumption) rfl rfl Tryz.underlying84 Tryz.sizeOf118 (by omega) (by omega)) rfl ?_
     refine hnil ?_
     refine ya0 (ac_storeN (vs' := rflat ((crashTo D.l ks k).set k ⟨x, zsec, false⟩)) rfl rfl (rsV_one _) Tryz.sizeOf118 zrp (rsV_length ⟨hx, zsec_length⟩) (by rw [rflat_length hsk, hsl]; omega) (by rw [show 0 + (k : Int).toNat * 289 = k * 289 by simp]; exact rs_store_all hsk hgt ⟨hx, zsec_length⟩)) ?_
     rintro v L' ⟨rfl, rfl⟩
     rw [hxc, hsu]
     refine hnoP' (kthn (hK13 _ _ ?_))
     clear hK13
     refine creg ?_
     refine ymv ?_
     refine y (ev_add rfl rfl) rfl ?_
     have hcs' : cnt (D.l.take (k + 1)) = cnt (D.l.take k) + 1 := by rw [hcs]; simp_all
     have hple := pendTo_le D.l k
     have hpc : (pendTo D.l k).length = cnt (D.l.take k) := rfl
     rw [wr (by omega) (by omega), show ((cnt (D.l.take k) : Nat) : Int) + 1 = ((cnt (D.l.take (k + 1)) : Nat) : Int) by omega]
     refine yas ?_
     refine ynil' (kbn (kthn (hK7 _ _ ?_)))
     clear hK7
     refine creg ?_
     refine ymv ?_
     refine y (ev_add rfl rfl) rfl ?_
     rw [show IntKind.i64.wrap ((k:Int) + 1) = ((k+1 : Nat) : Int) by rw [wr (by omega) (by omega)]; rfl]
     refine yas ?_
     refine ynil' (kthn ?_)
     exact hL1 (k + 1) ((show k + 1 ≤ D.l.length by omega)) (by omega) _ _ zsub zge
    clear hK12
    refine cseq ?_; intro K14 hK14
    refine creg ?_
    refine ymv ?_
    refine ymv ?_
    first
      | refine y (ev_len rfl Tryz.underlying46) rfl ?_
      | refine y (ev_lenSv rfl Tryz.underlying46 (by assumption)) rfl ?_
      | refine y (ev_lenV rfl Tryz.underlying46 (RdV.lenVal (by assumption))) rfl ?_
      | refine y (ev_lenV rfl Tryz.underlying46 (RdB.lenVal (by assumption))) rfl ?_
    refine y (ev_lss rfl rfl) rfl ?_
    refine ymv ?_
    refine ysplit 58 rfl (fun h62 => ?_) (fun h62 => ?_)
    ·(try simp only [sH] at h62)
     refine ygo ?_
     refine ymv ?_
     refine ygo ?_
     refine ymv ?_
     refine ygo ?_
     first
       | refine y (ev_ixAddr rfl rfl Tryz.underlying46 Tryz.sizeOf119 (by omega) (by omega)) rfl ?_
       | refine y (ev_ixV (by assumption) rfl rfl Tryz.underlying46 Tryz.sizeOf119 (by omega) (by omega)) rfl ?_
     obtain ⟨yy, hy⟩ : ∃ yy, ks[cnt (D.l.take k)]? = some yy := ⟨_, List.getElem?_eq_getElem (by omega)⟩
     obtain ⟨hy1, hy2⟩ := keepsV_get ks _ yy hy
     refine ygo ?_
     refine y (ev_fieldAddr 0 rfl Tryz.underlying119 rfl Tryz.sizeOf3) rfl ?_
     refine ygo ?_
     refine y (ev_loadV (cnt (D.l.take k) * 2) hkk zge rfl Tryz.isAgg3 (by simp) hy1) rfl ?_
     refine ygo ?_
     refine y (ev_eql rfl rfl) rfl ?_
     refine ypa ?_
     refine ynil' (kthn (hK14 _ _ ?_))
     clear hK14
     refine ccond rfl (fun h70 => ?_) (fun h70 => ?_)
     ·(try simp only [sH] at h70)
      have hxb : x = r.b := by rw [hx8, hy]; simp_all
      subst hxb
      refine cseq ?_; intro K15 hK15
      refine creg ?_
      refine yas ?_
      refine ynil' (kthn (hK15 _ _ ?_))
      clear hK15
      refine cblock ?_
      refine cloop (A := Nat) (fun x => [(7, i64 x), (6, ptr b6), (5, i64 k), (4, i64 (cnt (D.l.take k))), (0, ptr p), (1, kv)]) (fun x => [sc b6 (bytesV (r.p.take x ++ r.b.drop x)) 113, sc p [.slice (some ⟨la, 0, none⟩) D.l.length D.l.length, .bool D.dead, .int .i64 D.fuse] 86, sc la (rflat (crashTo D.l ks k)) 118] ++ R) (fun x => x ≤ torn yy.2) (fun x => 144 - x) (0) ?_ zsub zge ?_
      · exact Nat.zero_le _
      rintro z hI2 KL2 hL2
      have hI2o := hI2
      have hz := hI2; have htl := torn_le yy.2
      refine cseq ?_; intro K16 hK16
      refine cseq ?_; intro K17 hK17
      refine creg ?_
      refine ymv ?_
      refine y (ev_lss rfl rfl) rfl ?_
      refine ymv ?_
      refine ysplit 68 rfl (fun h75 => ?_) (fun h75 => ?_)
      ·(try simp only [sH] at h75)
       refine ygo ?_
       refine ymv ?_
       refine ygo ?_
       refine ymv ?_
       refine ygo ?_
       refine ymv ?_
       refine ygo ?_
       first
         | refine y (ev_ixAddr rfl rfl Tryz.underlying46 Tryz.sizeOf119 (by omega) (by omega)) rfl ?_
         | refine y (ev_ixV (by assumption) rfl rfl Tryz.underlying46 Tryz.sizeOf119 (by omega) (by omega)) rfl ?_
       refine ygo ?_
       refine y (ev_fieldAddr 1 rfl Tryz.underlying119 rfl Tryz.sizeOf3) rfl ?_
       refine ygo ?_
       refine y (ev_loadV (cnt (D.l.take k) * 2 + 1) hkk zge rfl Tryz.isAgg3 (by simp; omega) hy2) rfl ?_
       refine ygo ?_
       refine y (ev_lss rfl rfl) rfl ?_
       refine ypa ?_
       refine ynil' (kthn (hK17 _ _ ?_))
       clear hK17
       refine ccond rfl (fun h84 => ?_) (fun h84 => ?_)
       ·(try simp only [sH] at h84)
        refine cskip' (kthn (hK16 _ _ ?_))
        clear hK16
        refine cseq ?_; intro K18 hK18
        refine cblock ?_
        refine creg ?_
        refine ymv ?_
        refine ymv ?_
        refine yni ?_
        refine y (ev_fieldAddr 0 rfl Tryz.underlying86 rfl Tryz.sizeOf84) rfl ?_
        refine y (ev_load rfl Tryz.isAgg84 zin rfl) rfl ?_
        refine ymv ?_
        refine ymv ?_
        first
          | refine y (ev_ixAddr rfl rfl Tryz.underlying84 Tryz.sizeOf118 (by omega) (by omega)) rfl ?_
          | refine y (ev_ixV (by assumption) rfl rfl Tryz.underlying84 Tryz.sizeOf118 (by omega) (by omega)) rfl ?_
        refine y (ev_fieldAddr 144 rfl Tryz.underlying118 rfl Tryz.sizeOf113) rfl ?_
        refine y (ev_ixAddrA rfl rfl Tryz.underlying113 Tryz.sizeOf5 (by omega) (by omega)) rfl ?_
        refine y (ev_load rfl Tryz.isAgg5 zin (by rw [show 0 + (k : Int).toNat * 289 + 144 + (z : Int).toNat * 1 = k * 289 + (144 + z) by simp; omega, rflat_get hsk hgt (by omega)]; have hrp := rs_byte_p hro hri (k := z) (by omega); rwa [show r.sec = r.p by unfold RS.sec; rw [if_pos hri]] at hrp)) rfl ?_
        refine y (ev_ixAddrA rfl rfl Tryz.underlying113 Tryz.sizeOf5 (by omega) (by omega)) rfl ?_
        refine ya0 (ac_store (vs' := bytesV (r.p.take (z + 1) ++ r.b.drop (z + 1))) rfl rfl rfl Tryz.sizeOf5 zrp (by simp [hro.1, hro.2]; omega) (by rw [show 0 + (z : Int).toNat * 1 = z by simp]; exact copy_byte hro.2 hro.1 (by omega))) ?_
        rintro v L' ⟨rfl, rfl⟩
        refine ynil' (kbn (kthn (hK18 _ _ ?_)))
        clear hK18
        refine creg ?_
        refine ymv ?_
        refine y (ev_add rfl rfl) rfl ?_
        rw [show IntKind.i64.wrap ((z:Int) + 1) = ((z+1 : Nat) : Int) by rw [wr (by omega) (by omega)]; rfl]
        refine yas ?_
        refine ynil' (kthn ?_)
        exact hL2 (z + 1) ((show z + 1 ≤ torn yy.2 by unfold torn; omega)) (by omega) _ _ zsub zge
       ·(try simp only [sH] at h84)
        refine cexit (kthx (kthx (kbx (kthn ?_))))
        first
          | (exfalso; omega; done)
          | exact ksub zsub zge (hJr13 _ (by first | (have hzt : z = torn yy.2 := (by unfold torn at hz ⊢; omega); rw [hzt]; exact crash_inv1 hri hro hy (by assumption)) | exact crash_inv1 hri hro hy (by assumption) | exact crash_inv8 hri hro hx8 (fun q hq => by rw [hy] at hq; cases hq; assumption) | exact crash_inv8 hri hro hx8 (fun q hq => by rw [List.getElem?_eq_none (by omega)] at hq; cases hq)))
      ·(try simp only [sH] at h75)
       refine ygz ?_
       refine ygz ?_
       refine ygz ?_
       refine ygz ?_
       refine ygz ?_
       refine ygz ?_
       refine ygz ?_
       refine ypb ?_
       refine ynil' (kthn (hK17 _ _ ?_))
       clear hK17
       refine ccond0 rfl ?_
       refine cexit (kthx (kthx (kbx (kthn ?_))))
       first
         | (exfalso; omega; done)
         | exact ksub zsub zge (hJr13 _ (by first | (have hzt : z = torn yy.2 := (by unfold torn at hz ⊢; omega); rw [hzt]; exact crash_inv1 hri hro hy (by assumption)) | exact crash_inv1 hri hro hy (by assumption) | exact crash_inv8 hri hro hx8 (fun q hq => by rw [hy] at hq; cases hq; assumption) | exact crash_inv8 hri hro hx8 (fun q hq => by rw [List.getElem?_eq_none (by omega)] at hq; cases hq)))
     ·(try simp only [sH] at h70)
      refine cskip' (kthn ?_)
      first
        | (exfalso; omega; done)
        | exact ksub zsub zge (hJr13 _ (by first | (have hzt : z = torn yy.2 := (by unfold torn at hz ⊢; omega); rw [hzt]; exact crash_inv1 hri hro hy (by assumption)) | exact crash_inv1 hri hro hy (by assumption) | exact crash_inv8 hri hro hx8 (fun q hq => by rw [hy] at hq; cases hq; assumption) | exact crash_inv8 hri hro hx8 (fun q hq => by rw [List.getElem?_eq_none (by omega)] at hq; cases hq)))
    ·(try simp only [sH] at h62)
     refine ygz ?_
     refine ygz ?_
     refine ygz ?_
     refine ygz ?_
     refine ygz ?_
     refine ygz ?_
     refine ypb ?_
     refine ynil' (kthn (hK14 _ _ ?_))
     clear hK14
     refine ccond0 rfl ?_
     refine cskip' (kthn ?_)
     first
       | (exfalso; omega; done)
       | exact ksub zsub zge (hJr13 _ (by first | (have hzt : z = torn yy.2 := (by unfold torn at hz ⊢; omega); rw [hzt]; exact crash_inv1 hri hro hy (by assumption)) | exact crash_inv1 hri hro hy (by assumption) | exact crash_inv8 hri hro hx8 (fun q hq => by rw [hy] at hq; cases hq; assumption) | exact crash_inv8 hri hro hx8 (fun q hq => by rw [List.getElem?_eq_none (by omega)] at hq; cases hq)))
   clear hK11
   refine cseq ?_; intro K19 hK19
   refine creg ?_
   refine ymv ?_
   refine ymv ?_
   first
     | refine y (ev_len rfl Tryz.underlying46) rfl ?_
     | refine y (ev_lenSv rfl Tryz.underlying46 (by assumption)) rfl ?_
     | refine y (ev_lenV rfl Tryz.underlying46 (RdV.lenVal (by assumption))) rfl ?_
     | refine y (ev_lenV rfl Tryz.underlying46 (RdB.lenVal (by assumption))) rfl ?_
   refine y (ev_lss rfl rfl) rfl ?_
   refine ymv ?_
   refine ysplit 38 rfl (fun h108 => ?_) (fun h108 => ?_)
   ·(try simp only [sH] at h108)
    refine ygo ?_
    refine ymv ?_
    refine ygo ?_
    refine ymv ?_
    refine ygo ?_
    first
      | refine y (ev_ixAddr rfl rfl Tryz.underlying46 Tryz.sizeOf119 (by omega) (by omega)) rfl ?_
      | refine y (ev_ixV (by assumption) rfl rfl Tryz.underlying46 Tryz.sizeOf119 (by omega) (by omega)) rfl ?_
    obtain ⟨yy, hy⟩ : ∃ yy, ks[cnt (D.l.take k)]? = some yy := ⟨_, List.getElem?_eq_getElem (by omega)⟩
    obtain ⟨hy1, hy2⟩ := keepsV_get ks _ yy hy
    refine ygo ?_
    refine y (ev_fieldAddr 0 rfl Tryz.underlying119 rfl Tryz.sizeOf3) rfl ?_
    refine ygo ?_
    refine y (ev_loadV (cnt (D.l.take k) * 2) hkk zge rfl Tryz.isAgg3 (by simp) hy1) rfl ?_
    refine ygo ?_
    refine y (ev_eql rfl rfl) rfl ?_
    refine ypa ?_
    refine ynil' (kthn (hK19 _ _ ?_))
    clear hK19
    refine ccond rfl (fun h116 => ?_) (fun h116 => ?_)
    ·(try simp only [sH] at h116)
     refine creg ?_
     refine ymv ?_
     refine yni ?_
     refine y (ev_fieldAddr 0 rfl Tryz.underlying86 rfl Tryz.sizeOf84) rfl ?_
     refine y (ev_load rfl Tryz.isAgg84 zin rfl) rfl ?_
     refine ymv ?_
     first
       | refine y (ev_ixAddr rfl rfl Tryz.underlying84 Tryz.sizeOf118 (by omega) (by omega)) rfl ?_
       | refine y (ev_ixV (by assumption) rfl rfl Tryz.underlying84 Tryz.sizeOf118 (by omega) (by omega)) rfl ?_
     refine y (ev_fieldAddr 144 rfl Tryz.underlying118 rfl Tryz.sizeOf113) rfl ?_
     refine y (ev_loadN (u := bytesV r.p) rfl Tryz.isAgg113 Tryz.sizeOf113 zin (by rw [show 0 + (k : Int).toNat * 289 + 144 = k * 289 + 144 by simp, rflat_slice hsk hgt (by omega)]; exact rsV_p hro) (by simp [hro.2])) rfl ?_
     refine ya0 (ac_storeAll rfl rfl (bytesV_one _) Tryz.sizeOf113 zrp (by simp [hro.2]) (by simp [hro.1])) ?_
     rintro v L' ⟨rfl, rfl⟩
     refine ynil' (kthn ?_)
     first
       | (exfalso; omega; done)
       | exact ksub zsub zge (hJr8 _ (by first | (rw [hy]; simp_all; done) | (rw [List.getElem?_eq_none (by omega)]; done)))
    ·(try simp only [sH] at h116)
     refine cskip' (kthn ?_)
     first
       | (exfalso; omega; done)
       | exact ksub zsub zge (hJr8 _ (by first | (rw [hy]; simp_all; done) | (rw [List.getElem?_eq_none (by omega)]; done)))
   ·(try simp only [sH] at h108)
    refine ygz ?_
    refine ygz ?_
    refine ygz ?_
    refine ygz ?_
    refine ygz ?_
    refine ygz ?_
    refine ypb ?_
    refine ynil' (kthn (hK19 _ _ ?_))
    clear hK19
    refine ccond0 rfl ?_
    refine cskip' (kthn ?_)
    first
      | (exfalso; omega; done)
      | exact ksub zsub zge (hJr8 _ (by first | (rw [hy]; simp_all; done) | (rw [List.getElem?_eq_none (by omega)]; done)))
 ·(try simp only [sH] at h18)
  refine cexit (kthx (kthx (kbx (kthn ?_))))
  exact ksub zsub zge (hJ1 k ⟨hI1o, by first | trivial | omega⟩)
end W
end Go.Proofs
