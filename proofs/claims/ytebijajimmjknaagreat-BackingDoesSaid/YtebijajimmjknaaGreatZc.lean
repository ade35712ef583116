/- A part of the proof: contracts and plain lemmas, each without conditions beyond those that it names. -/
import Derived.Test.YtebijajimmjknaaGreatZb
set_option linter.unusedVariables false
set_option linter.unusedSimpArgs false
set_option linter.constructorNameAsVariable false
namespace Go.Proofs
open Go Go.Sl
namespace W
set_option linter.unusedVariables false
set_option maxHeartbeats 4000000 in
theorem lawBDoes [Env] {R : List Seg} {n f bl k0 : Int} {lv : Value} {acts : List ActB} (hl : RdV R lv acts.length (actbsV acts)) (haa : ∀ a ∈ acts, a.ok R) :
   Con Tryz.prog 4 [i64 n, i64 f, i64 bl, lv, i64 k0] [] R (Is (.bool true) []) := by
 have hvl := hl.lenVal
 refine con_enter Tryz.func4 Tryz.ntmps4 rfl rfl ?_
 refine cseq ?_; intro K1 hK1
 refine creg ?_
 refine yas ?_
 refine ynil' (kthn (hK1 _ _ ?_))
 clear hK1
 refine cseq ?_; intro K2 hK2
 refine cseq ?_; intro K3 hK3
 refine creg ?_
 refine ycall (bAwake) rfl Tryz.call28 ztk rfl ?_
 rintro v L' ⟨rfl, rfl⟩
 skip
 ·skip
  refine y (ev_not rfl) rfl ?_
  refine ynil' (kthn (hK3 _ _ ?_))
  clear hK3
  refine ccond0 rfl ?_
  refine cskip' (kthn (hK2 _ _ ?_))
  clear hK2
  refine cseq ?_; intro K4 hK4
  refine creg ?_
  refine ymv ?_
  by_cases hn : 0 ≤ n ∧ n ≤ 512
  ·skip
   first | (refine ycall (secNewZ hn) rfl Tryz.call6 ztk rfl ?_; rintro v L' ⟨q32, rfl, rfl⟩) | (refine ycall (secNewNil (by omega)) rfl Tryz.call6 ztk rfl ?_; rintro v L' ⟨rfl, rfl⟩)
   refine yas ?_
   refine ynil' (kthn (hK4 _ _ ?_))
   clear hK4
   refine cseq ?_; intro K5 hK5
   refine creg ?_
   refine ymv ?_
   first | (refine ycall (rdNewZ hn) rfl Tryz.call7 ztk rfl ?_; rintro v L' ⟨p34, la34, rfl, rfl⟩) | (refine ycall (refNewNil (by omega)) rfl Tryz.call7 ztk rfl ?_; rintro v L' ⟨rfl, rfl⟩)
   refine yas ?_
   refine ynil' (kthn (hK5 _ _ ?_))
   clear hK5
   refine cseq ?_; intro K6 hK6
   refine cseq ?_; intro K7 hK7
   refine creg ?_
   refine ymv ?_
   refine y (ev_eqlPnil rfl rfl Tryz.underlying24) rfl ?_
   refine ymv ?_
   refine ygo ?_
   refine ymv ?_
   refine ygo ?_
   refine y (ev_eqlPnil rfl rfl Tryz.underlying26) rfl ?_
   refine ypb ?_
   refine ynil' (kthn (hK7 _ _ ?_))
   clear hK7
   refine ccond0 rfl ?_
   refine cskip' (kthn (hK6 _ _ ?_))
   clear hK6
   refine cseq ?_; intro K8 hK8
   refine creg ?_
   have hR0 : Rel (Dev.new n.toNat) (RDev.new n.toNat) := Rel.new (by omega)
   have hl0 : (Dev.new n.toNat).l.length = n.toNat := by simp [Dev.new]
   generalize Dev.new n.toNat = D0 at *
   generalize RDev.new n.toNat = E0 at *
   refine ymv ?_
   refine ymv ?_
   refine ymv ?_
   by_cases ho : stoE D0 f bl = 0
   ·skip
    first | (refine ycall (ubOpenOk hR0.ok ho) rfl Tryz.call29 ztk rfl ?_; rintro v L' ⟨s52, t52, ps52, rfl, hp52, rfl⟩) | (refine ycall (ubOpenBad hR0.ok ho) rfl Tryz.call29 ztk rfl ?_; rintro v L' ⟨rfl, rfl⟩)
    refine ymv ?_
    refine yxt ?_
    refine yxt ?_
    refine yas ?_
    refine yas ?_
    refine ynil' (kthn (hK8 _ _ ?_))
    clear hK8
    refine cseq ?_; intro K9 hK9
    refine creg ?_
    refine ymv ?_
    refine ymv ?_
    refine ymv ?_
    first | (refine ycall (vbOpenOk hR0 ho) rfl Tryz.call30 ztk rfl ?_; rintro v L' ⟨s60, c60, b60, cap60, sp60, ps60, rfl, hp60, rfl⟩; have hS0 := BdM.ok.of (z := ⟨s52, t52, ps52, s60, c60, b60, cap60, sp60, ps60⟩) hR0 hl0 (sto_any hR0.ok ho hp52) (by rw [openS_n]; exact hp60); let t0 : TwB := some (⟨s52, t52, ps52, s60, c60, b60, cap60, sp60, ps60⟩, openS D0 f bl.toNat)) | (refine ycall (vbOpenBad hR0 ho) rfl Tryz.call30 ztk rfl ?_; rintro v L' ⟨rfl, rfl⟩; have hS0 := BdM.ok.none' hR0 hl0; let t0 : TwB := none)
    refine ymv ?_
    refine yxt ?_
    refine yxt ?_
    refine yas ?_
    refine yas ?_
    refine ynil' (kthn (hK9 _ _ ?_))
    clear hK9
    refine cseq ?_; intro K10 hK10
    have hJr11 : ∀ x : TwB, (BdM.ok ⟨D0, E0, x⟩ n.toNat) → Sk 250 K10 ([(15, ubV2 x), (13, ubV1 x), (12, ptr p34), (11, dp q32), (0, i64 n), (1, i64 f), (2, i64 bl), (3, lv), (4, i64 k0)]) ([ubA x, ubB q32 x, ubC q32 x, ubD x, ubE x, ubF p34 x, ubG p34 x, dev q32 D0, rdev p34 la34 E0] ++ R) := by
     rintro t0 hIr11
     refine hK10 _ _ ?_
     have hS0 := hIr11
     refine cseq ?_; intro K11 hK11
     refine cseq ?_; intro K12 hK12
     refine creg ?_
     refine yas ?_
     refine ynil' (kthn (hK12 _ _ ?_))
     clear hK12
     have hJ1 : ∀ x : Nat × BdM, ((x.2.ok n.toNat ∧ x.1 ≤ acts.length ∧ x.1 ≤ 60) ∧ (True)) → Sk 250 K11 ([(17, i64 x.1), (15, ubV2 x.2.t), (13, ubV1 x.2.t), (12, ptr p34), (11, dp q32), (0, i64 n), (1, i64 f), (2, i64 bl), (3, lv), (4, i64 k0)]) ([ubA x.2.t, ubB q32 x.2.t, ubC q32 x.2.t, ubD x.2.t, ubE x.2.t, ubF p34 x.2.t, ubG p34 x.2.t, dev q32 x.2.D, rdev p34 la34 x.2.E] ++ R) := by
      rintro ⟨z, D, E, t⟩ ⟨hI1, hX1⟩
      refine hK11 _ _ ?_
      obtain ⟨hS, hz1, hz2⟩ := hI1; dsimp only at hS hz1 hz2 ⊢
      refine cseq ?_; intro K13 hK13
      refine creg ?_
      refine yas ?_
      refine ynil' (kthn (hK13 _ _ ?_))
      clear hK13
      refine cret ?_
      first
        | (exfalso; omega; done)
        | (refine kretv Tryz.results4 rfl (L1 := R) zge ?_
           exact ⟨_, ⟨by first | rfl | (exfalso; simp_all; done), rfl⟩, by first | rfl | (exfalso; simp_all; done)⟩)
     clear hK11
     refine cblock ?_
     refine cloop (A := Nat × BdM) (fun x => [(17, i64 x.1), (15, ubV2 x.2.t), (13, ubV1 x.2.t), (12, ptr p34), (11, dp q32), (0, i64 n), (1, i64 f), (2, i64 bl), (3, lv), (4, i64 k0)]) (fun x => [ubA x.2.t, ubB q32 x.2.t, ubC q32 x.2.t, ubD x.2.t, ubE x.2.t, ubF p34 x.2.t, ubG p34 x.2.t, dev q32 x.2.D, rdev p34 la34 x.2.E] ++ R) (fun x => x.2.ok n.toNat ∧ x.1 ≤ acts.length ∧ x.1 ≤ 60) (fun x => acts.length - x.1) ((0, ⟨D0, E0, t0⟩)) ?_ zsub zge ?_
     · exact ⟨hS0, Nat.zero_le _, Nat.zero_le _⟩
     rintro ⟨z, D, E, t⟩ hI1 KL1 hL1
     have hI1o := hI1
     obtain ⟨hS, hz1, hz2⟩ := hI1; dsimp only at hS hz1 hz2 ⊢
     refine cseq ?_; intro K14 hK14
     refine cseq ?_; intro K15 hK15
     refine creg ?_
     refine ymv ?_
     refine ymv ?_
     first
       | refine y (ev_len rfl Tryz.underlying60) rfl ?_
       | refine y (ev_lenSv rfl Tryz.underlying60 (by assumption)) rfl ?_
       | refine y (ev_lenV rfl Tryz.underlying60 (RdV.lenVal (by assumption))) rfl ?_
       | refine y (ev_lenV rfl Tryz.underlying60 (RdB.lenVal (by assumption))) rfl ?_
     refine y (ev_lss rfl rfl) rfl ?_
     refine ymv ?_
     refine ysplit 78 rfl (fun h41 => ?_) (fun h41 => ?_)
     ·(try simp only [sH] at h41)
      refine ygo ?_
      refine ymv ?_
      refine ygo ?_
      refine y (ev_lss rfl rfl) rfl ?_
      refine ypa ?_
      refine ynil' (kthn (hK15 _ _ ?_))
      clear hK15
      refine ccond rfl (fun h45 => ?_) (fun h45 => ?_)
      ·(try simp only [sH] at h45)
       obtain ⟨yy, hy⟩ : ∃ yy, acts[z]? = some yy := ⟨_, List.getElem?_eq_getElem (by omega)⟩
       have hact := haa yy (List.mem_of_getElem? hy)
       refine cskip' (kthn (hK14 _ _ ?_))
       clear hK14
       refine cseq ?_; intro K16 hK16
       refine cblock ?_
       refine cseq ?_; intro K17 hK17
       refine creg ?_
       refine ymv ?_
       refine ymv ?_
       first
         | refine y (ev_ixAddr rfl rfl Tryz.underlying60 Tryz.sizeOf68 (by omega) (by omega)) rfl ?_
         | refine y (ev_ixV (by assumption) rfl rfl Tryz.underlying60 Tryz.sizeOf68 (by omega) (by omega)) rfl ?_
       refine y (ev_loadNV (us := yy.cells) (z * 17) hl zge rfl Tryz.isAgg68 Tryz.sizeOf68 (by simp) (actbsV_get hy) rfl) rfl ?_
       refine ya (ac_alloc Tryz.zeroValue68 rfl) rfl ?_
       rintro v L' ⟨b18, rfl, rfl⟩
       refine ya0 (ac_storeN rfl rfl hact.one Tryz.sizeOf68 zrp rfl (by simp [ActB.cells, MsgM.cells]) rfl) ?_
       rintro v L' ⟨rfl, rfl⟩
       refine ynil' (kthn (hK17 _ _ ?_))
       clear hK17
       refine cseq ?_; intro K18 hK18
       refine cseq ?_; intro K19 hK19
       refine creg ?_
       refine y (ev_loadN (u := yy.cells) rfl Tryz.isAgg68 Tryz.sizeOf68 zin rfl rfl) rfl ?_
       refine ycall (xbLarge ?lx53) rfl Tryz.call31 ztk rfl ?_
       case lx53 => exact hact.mono zge
       rintro v L' ⟨big89, rfl, hbig89, rfl⟩
       refine ynil' (kthn (hK19 _ _ ?_))
       clear hK19
       refine ccond rfl (fun h54 => ?_) (fun h54 => ?_)
       ·(try simp only [sH] at h54)
        refine cseq ?_; intro K20 hK20
        refine creg ?_
        refine yas ?_
        refine ynil' (kthn (hK20 _ _ ?_))
        clear hK20
        refine cret (kthr (kbr (kthr (kthr (kbr (kthr ?_))))))
        first
          | (exfalso; omega; done)
          | (refine kretv Tryz.results4 rfl (L1 := R) zge ?_
             exact ⟨_, ⟨by first | rfl | (exfalso; simp_all; done), rfl⟩, by first | rfl | (exfalso; simp_all; done)⟩)
       ·(try simp only [sH] at h54)
        have hlg := hbig89 h54
        refine cskip' (kthn (hK18 _ _ ?_))
        clear hK18
        refine cseq ?_; intro K21 hK21
        have hJr37 : ∀ x : BdM, (x.ok n.toNat) → Sk 250 K21 ([(17, i64 z), (15, ubV2 x.t), (13, ubV1 x.t), (12, ptr p34), (11, dp q32), (0, i64 n), (1, i64 f), (2, i64 bl), (3, lv), (4, i64 k0)]) ([ubA x.t, ubB q32 x.t, ubC q32 x.t, ubD x.t, ubE x.t, ubF p34 x.t, ubG p34 x.t, dev q32 x.D, rdev p34 la34 x.E] ++ R) := by
         rintro ⟨D, E, t⟩ hIr37
         refine hK21 _ _ ?_
         clear hS; have hS := hIr37; dsimp only at hS ⊢
         refine cseq ?_; intro K22 hK22
         refine cseq ?_; intro K23 hK23
         refine creg ?_
         rcases t with _ | ⟨P, S⟩
         ·skip
          refine ymv ?_
          refine y (ev_neqPnil rfl rfl Tryz.underlying61) rfl ?_
          first | (let tt : TwB := some (P, S); have hSl : S.ok D P.ps := hS.l.1; have hSq : S.ok D P.qs := hS.l.2) | (let tt : TwB := none)
          refine ynil' (kthn (hK23 _ _ ?_))
          clear hK23
          refine ccond0 rfl ?_
          refine cskip' (kthn (hK22 _ _ ?_))
          clear hK22
          refine cseq ?_; intro K24 hK24
          refine creg ?_
          refine yas ?_
          refine ynil' (kthn (hK24 _ _ ?_))
          clear hK24
          refine cblock ?_
          refine cloop (A := Nat) (fun x => [(27, i64 x), (17, i64 z), (15, ubV2 tt), (13, ubV1 tt), (12, ptr p34), (11, dp q32), (0, i64 n), (1, i64 f), (2, i64 bl), (3, lv), (4, i64 k0)]) (fun x => [ubA tt, ubB q32 tt, ubC q32 tt, ubD tt, ubE tt, ubF p34 tt, ubG p34 tt, dev q32 D, rdev p34 la34 E] ++ R) (fun x => x ≤ 12) (fun x => 12 - x) (0) ?_ zsub zge ?_
          · exact Nat.zero_le _
          rintro s hI2 KL2 hL2
          have hs6 := hI2
          refine cseq ?_; intro K25 hK25
          refine cseq ?_; intro K26 hK26
          refine creg ?_
          refine ymv ?_
          refine ymv ?_
          refine y (ev_lss rfl rfl) rfl ?_
          refine ymv ?_
          refine ysplit 222 rfl (fun h63 => ?_) (fun h63 => ?_)
          ·(try simp only [sH] at h63)
           refine ygo ?_
           refine ymv ?_
           refine ygo ?_
           refine y (ev_lss rfl rfl) rfl ?_
           refine ypa ?_
           refine ynil' (kthn (hK26 _ _ ?_))
           clear hK26
           refine ccond rfl (fun h67 => ?_) (fun h67 => ?_)
           ·(try simp only [sH] at h67)
            refine cskip' (kthn (hK25 _ _ ?_))
            clear hK25
            refine cseq ?_; intro K27 hK27
            refine cblock ?_
            refine cseq ?_; intro K28 hK28
            refine creg ?_
            refine ymv ?_
            refine ymv ?_
            refine ycall (secReadU hS.r.ok) rfl Tryz.call26 ztk rfl ?_
            rintro v L' ⟨s231, rfl, ok231, rfl⟩
            refine ymv ?_
            refine yxt ?_
            refine yxt ?_
            refine yas ?_
            refine yas ?_
            refine ynil' (kthn (hK28 _ _ ?_))
            clear hK28
            refine cseq ?_; intro K29 hK29
            refine creg ?_
            refine ymv ?_
            refine ymv ?_
            refine ycall (rdReadU hS.r.rok (fun h => by rw [← hS.r.has] at h; obtain ⟨-, q0, q1⟩ := has_zero h; rw [← hS.r.sec q0 q1]; exact sec_length hS.r.ok _)) rfl Tryz.call27 ztk rfl ?_
            rintro v L' ⟨s237, rfl, ok237, rfl⟩
            rw [← hS.r.rdB, ← hS.r.has] at *
            have hb231 : RdB [svSeg s231 5 (bytesV (D.rdB s))] (svVal s231 (D.rdB s).length) (D.rdB s) := rdB_sv .z ok231
            have hb237 : RdB [svSeg s237 5 (bytesV (D.rdB s))] (svVal s237 (D.rdB s).length) (D.rdB s) := rdB_sv .z ok237
            generalize D.rdB s = bs at *
            refine ymv ?_
            refine yxt ?_
            refine yxt ?_
            refine yas ?_
            refine yas ?_
            refine ynil' (kthn (hK29 _ _ ?_))
            clear hK29
            refine cseq ?_; intro K30 hK30
            refine creg ?_
            skip
            ·skip
             refine ymv ?_
             refine y (ev_toStrB hb231 zge rfl Tryz.underlying50 Tryz.underlying9 Tryz.underlying5) rfl ?_
             refine ymv ?_
             refine y (ev_toStrB hb237 zge rfl Tryz.underlying50 Tryz.underlying9 Tryz.underlying5) rfl ?_
             first
               | refine y (ev_neqL rfl rfl) rfl ?_
               | refine y (ev_neqS rfl rfl) rfl ?_
             rw [show decide (bs ≠ bs) = false by simp]
             refine ymv ?_
             refine ygo ?_
             refine ymv ?_
             refine ygo ?_
             refine ymv ?_
             refine ygo ?_
             refine y (ev_neq rfl rfl) rfl ?_
             rw [show (!decide (D.has s = D.has s)) = false by simp]
             refine ypb ?_
             refine ynil' (kthn (hK30 _ _ ?_))
             clear hK30
             refine ccond0 rfl ?_
             refine cskip' (kbn (kthn (hK27 _ _ ?_)))
             clear hK27
             refine creg ?_
             refine ymv ?_
             refine y (ev_add rfl rfl) rfl ?_
             rw [show IntKind.i64.wrap ((s:Int) + 1) = ((s+1 : Nat) : Int) by rw [wr (by omega) (by omega)]; rfl]
             refine yas ?_
             refine ynil' (kthn ?_)
             exact hL2 (s + 1) (by first | omega | (dsimp only; omega)) (by omega) _ _ zsub zge
           ·(try simp only [sH] at h67)
            refine cexit (kthx (kthx (kbx (kbn (kthn (hK16 _ _ ?_))))))
            clear hK16
            refine creg ?_
            refine ymv ?_
            refine y (ev_add rfl rfl) rfl ?_
            rw [show IntKind.i64.wrap ((z:Int) + 1) = ((z+1 : Nat) : Int) by rw [wr (by omega) (by omega)]; rfl]
            refine yas ?_
            refine ynil' (kthn ?_)
            first | exact hL1 (z + 1, ⟨D, E, tt⟩) ⟨hS, by dsimp only; omega, by dsimp only; omega⟩ (by dsimp only; omega) _ _ zsub zge | exact hL1 (z + 1, ⟨D, E, none⟩) ⟨hS, by dsimp only; omega, by dsimp only; omega⟩ (by dsimp only; omega) _ _ zsub zge
          ·(try simp only [sH] at h63)
           refine ygz ?_
           refine ygz ?_
           refine ypb ?_
           refine ynil' (kthn (hK26 _ _ ?_))
           clear hK26
           refine ccond0 rfl ?_
           refine cexit (kthx (kthx (kbx (kbn (kthn (hK16 _ _ ?_))))))
           clear hK16
           refine creg ?_
           refine ymv ?_
           refine y (ev_add rfl rfl) rfl ?_
           rw [show IntKind.i64.wrap ((z:Int) + 1) = ((z+1 : Nat) : Int) by rw [wr (by omega) (by omega)]; rfl]
           refine yas ?_
           refine ynil' (kthn ?_)
           first | exact hL1 (z + 1, ⟨D, E, tt⟩) ⟨hS, by dsimp only; omega, by dsimp only; omega⟩ (by dsimp only; omega) _ _ zsub zge | exact hL1 (z + 1, ⟨D, E, none⟩) ⟨hS, by dsimp only; omega, by dsimp only; omega⟩ (by dsimp only; omega) _ _ zsub zge
         ·skip
          refine ymv ?_
          refine y (ev_neqPnil rfl rfl Tryz.underlying61) rfl ?_
          first | (let tt : TwB := some (P, S); have hSl : S.ok D P.ps := hS.l.1; have hSq : S.ok D P.qs := hS.l.2) | (let tt : TwB := none)
          refine ynil' (kthn (hK23 _ _ ?_))
          clear hK23
          refine ccond1 rfl ?_
          refine cseq ?_; intro K31 hK31
          refine creg ?_
          refine ymv ?_
          refine ymv ?_
          refine ycall (bGet hSl.wf) rfl Tryz.call35 ztk rfl ?_
          rintro v L' ⟨rfl, rfl⟩
          refine ymv ?_
          refine yxt ?_
          refine yxt ?_
          refine ya (ac_alloc Tryz.zeroValue72 rfl) rfl ?_
          rintro v L' ⟨b23, rfl, rfl⟩
          refine ya0 (ac_storeAll rfl rfl (by first | exact bytesV_one _ | (simp [Value.oneCell']; done) | (simp only [List.forall_mem_cons, List.not_mem_nil, false_implies, implies_true, svVal_one, and_true, true_and, and_self]; first | done | simp [Value.oneCell'])) Tryz.sizeOf72 zrp (by first | rfl | assumption | (simp [*]; done) | (simp [*]; omega)) (by first | rfl | assumption | (simp [*]; done) | (simp [*]; omega))) ?_
          rintro v L' ⟨rfl, rfl⟩
          refine yas ?_
          refine ynil' (kthn (hK31 _ _ ?_))
          clear hK31
          refine cseq ?_; intro K32 hK32
          refine creg ?_
          refine ymv ?_
          refine ymv ?_
          refine ycall (xbGet hSq.wf) rfl Tryz.call36 ztk rfl ?_
          rintro v L' ⟨rfl, rfl⟩
          refine ymv ?_
          refine yxt ?_
          refine yxt ?_
          refine ya (ac_alloc Tryz.zeroValue72 rfl) rfl ?_
          rintro v L' ⟨b25, rfl, rfl⟩
          refine ya0 (ac_storeAll rfl rfl (by first | exact bytesV_one _ | (simp [Value.oneCell']; done) | (simp only [List.forall_mem_cons, List.not_mem_nil, false_implies, implies_true, svVal_one, and_true, true_and, and_self]; first | done | simp [Value.oneCell'])) Tryz.sizeOf72 zrp (by first | rfl | assumption | (simp [*]; done) | (simp [*]; omega)) (by first | rfl | assumption | (simp [*]; done) | (simp [*]; omega))) ?_
          rintro v L' ⟨rfl, rfl⟩
          refine yas ?_
          refine ynil' (kthn (hK32 _ _ ?_))
          clear hK32
          refine cseq ?_; intro K33 hK33
          refine cdraw 25 [(0, true), (1, true), (2, true), (3, true), (4, true), (5, true), (6, true), (7, true), (8, true), (9, true), (11, true), (12, true), (13, true), (14, true), (10, false), (15, true), (16, true), (17, true), (18, true), (20, true), (21, true), (22, true), (23, true), (19, false), (24, true)] ([sc b23 _ 72, sc b25 _ 72, stoP P.s P.t P.ps S, rsP P.s2 P.c2 (bkV P.b2 S.bs.length P.cap) S] ++ R) Tryz.mixed (by kernel_rfl) zge ?_
          refine hr rfl (ev_loadAll rfl Tryz.isAgg72 Tryz.sizeOf72 zin (by first | rfl | assumption | (simp [*]; done) | (simp [*]; omega))) rfl ?_
          refine hr rfl (ev_loadAll rfl Tryz.isAgg72 Tryz.sizeOf72 zin (by first | rfl | assumption | (simp [*]; done) | (simp [*]; omega))) rfl ?_
          refine hr rfl (ev_neqF (p := True) rfl rfl (by kernel_rfl) (by simp)) rfl ?_
          rw [show (!decide True) = false by simp]
          refine hr rfl (ev_move rfl) rfl ?_
          refine hr1 rfl rfl rfl (ev_move rfl) rfl ?_
          refine hr1 rfl rfl rfl (ev_move rfl) rfl ?_
          first
            | refine hr1 rfl rfl rfl (ev_neqL rfl rfl) rfl ?_
            | refine hr1 rfl rfl rfl (ev_neqS rfl rfl) rfl ?_
          rw [show decide ((S.getB k0).data ≠ (S.getB k0).data) = false by simp]
          refine hr rfl (ev_pick0 rfl rfl) rfl ?_
          refine hr rfl (ev_move rfl) rfl ?_
          refine hr1 rfl rfl rfl (ev_move rfl) rfl ?_
          refine hr1 rfl rfl rfl (ev_move rfl) rfl ?_
          refine hr1 rfl rfl rfl (ev_nil rfl) rfl ?_
          refine hr1 rfl rfl rfl (ev_fieldAddr 1 rfl Tryz.underlying77 rfl Tryz.sizeOf2) rfl ?_
          refine hr1 rfl rfl rfl (ev_load rfl Tryz.isAgg2 zin rfl) rfl ?_
          refine hcall1 rfl rfl rfl (bToken) rfl Tryz.call37 ztk rfl ?_
          rintro v L' ⟨rfl, rfl⟩; refine ⟨zge, ?_⟩
          refine hr1 rfl rfl rfl (ev_neq rfl rfl) rfl ?_
          rw [show (!decide (S.epoch = S.epoch)) = false by simp]
          refine hr rfl (ev_pick0 rfl rfl) rfl ?_
          refine hr rfl (ev_move rfl) rfl ?_
          refine hr1 rfl rfl rfl (ev_move rfl) rfl ?_
          refine hr1 rfl rfl rfl (ev_move rfl) rfl ?_
          refine hr1 rfl rfl rfl (ev_nil rfl) rfl ?_
          refine hr1 rfl rfl rfl (ev_fieldAddr 3 rfl Tryz.underlying77 rfl Tryz.sizeOf35) rfl ?_
          refine hr1 rfl rfl rfl (ev_loadN (u := intsV S.tab) rfl Tryz.isAgg35 Tryz.sizeOf35 zin (by show (List.drop 3 _).take 4 = _; unfold rsV13; rw [List.drop_left' (by rfl), List.take_of_length_le (by simp [intsV, hSl.wf.tab])]) (by simp [intsV, hSl.wf.tab])) rfl ?_
          refine hcall1 rfl rfl rfl (bTable hSl.wf) rfl Tryz.call38 ztk rfl ?_
          rintro v L' ⟨rfl, rfl⟩; refine ⟨zge, ?_⟩
          refine hr1 rfl rfl rfl (ev_neqF (p := True) rfl rfl (by rw [tab4 hSl.wf.tab]; kernel_rfl) (by simp)) rfl ?_
          rw [show (!decide True) = false by simp]
          refine hnil ?_
          refine ypb ?_
          refine hnoP' (kthn (hK33 _ _ ?_))
          clear hK33
          refine ccond0 rfl ?_
          refine cskip' (kthn (hK22 _ _ ?_))
          clear hK22
          refine cseq ?_; intro K34 hK34
          refine creg ?_
          refine yas ?_
          refine ynil' (kthn (hK34 _ _ ?_))
          clear hK34
          refine cblock ?_
          refine cloop (A := Nat) (fun x => [(27, i64 x), (17, i64 z), (15, ubV2 tt), (13, ubV1 tt), (12, ptr p34), (11, dp q32), (0, i64 n), (1, i64 f), (2, i64 bl), (3, lv), (4, i64 k0)]) (fun x => [ubA tt, ubB q32 tt, ubC q32 tt, ubD tt, ubE tt, ubF p34 tt, ubG p34 tt, dev q32 D, rdev p34 la34 E] ++ R) (fun x => x ≤ 12) (fun x => 12 - x) (0) ?_ zsub zge ?_
          · exact Nat.zero_le _
          rintro s hI2 KL2 hL2
          have hs6 := hI2
          refine cseq ?_; intro K35 hK35
          refine cseq ?_; intro K36 hK36
          refine creg ?_
          refine ymv ?_
          refine ymv ?_
          refine y (ev_lss rfl rfl) rfl ?_
          refine ymv ?_
          refine ysplit 222 rfl (fun h155 => ?_) (fun h155 => ?_)
          ·(try simp only [sH] at h155)
           refine ygo ?_
           refine ymv ?_
           refine ygo ?_
           refine y (ev_lss rfl rfl) rfl ?_
           refine ypa ?_
           refine ynil' (kthn (hK36 _ _ ?_))
           clear hK36
           refine ccond rfl (fun h159 => ?_) (fun h159 => ?_)
           ·(try simp only [sH] at h159)
            refine cskip' (kthn (hK35 _ _ ?_))
            clear hK35
            refine cseq ?_; intro K37 hK37
            refine cblock ?_
            refine cseq ?_; intro K38 hK38
            refine creg ?_
            refine ymv ?_
            refine ymv ?_
            refine ycall (secReadU hS.r.ok) rfl Tryz.call26 ztk rfl ?_
            rintro v L' ⟨s231, rfl, ok231, rfl⟩
            refine ymv ?_
            refine yxt ?_
            refine yxt ?_
            refine yas ?_
            refine yas ?_
            refine ynil' (kthn (hK38 _ _ ?_))
            clear hK38
            refine cseq ?_; intro K39 hK39
            refine creg ?_
            refine ymv ?_
            refine ymv ?_
            refine ycall (rdReadU hS.r.rok (fun h => by rw [← hS.r.has] at h; obtain ⟨-, q0, q1⟩ := has_zero h; rw [← hS.r.sec q0 q1]; exact sec_length hS.r.ok _)) rfl Tryz.call27 ztk rfl ?_
            rintro v L' ⟨s237, rfl, ok237, rfl⟩
            rw [← hS.r.rdB, ← hS.r.has] at *
            have hb231 : RdB [svSeg s231 5 (bytesV (D.rdB s))] (svVal s231 (D.rdB s).length) (D.rdB s) := rdB_sv .z ok231
            have hb237 : RdB [svSeg s237 5 (bytesV (D.rdB s))] (svVal s237 (D.rdB s).length) (D.rdB s) := rdB_sv .z ok237
            generalize D.rdB s = bs at *
            refine ymv ?_
            refine yxt ?_
            refine yxt ?_
            refine yas ?_
            refine yas ?_
            refine ynil' (kthn (hK39 _ _ ?_))
            clear hK39
            refine cseq ?_; intro K40 hK40
            refine creg ?_
            skip
            ·skip
             refine ymv ?_
             refine y (ev_toStrB hb231 zge rfl Tryz.underlying50 Tryz.underlying9 Tryz.underlying5) rfl ?_
             refine ymv ?_
             refine y (ev_toStrB hb237 zge rfl Tryz.underlying50 Tryz.underlying9 Tryz.underlying5) rfl ?_
             first
               | refine y (ev_neqL rfl rfl) rfl ?_
               | refine y (ev_neqS rfl rfl) rfl ?_
             rw [show decide (bs ≠ bs) = false by simp]
             refine ymv ?_
             refine ygo ?_
             refine ymv ?_
             refine ygo ?_
             refine ymv ?_
             refine ygo ?_
             refine y (ev_neq rfl rfl) rfl ?_
             rw [show (!decide (D.has s = D.has s)) = false by simp]
             refine ypb ?_
             refine ynil' (kthn (hK40 _ _ ?_))
             clear hK40
             refine ccond0 rfl ?_
             refine cskip' (kbn (kthn (hK37 _ _ ?_)))
             clear hK37
             refine creg ?_
             refine ymv ?_
             refine y (ev_add rfl rfl) rfl ?_
             rw [show IntKind.i64.wrap ((s:Int) + 1) = ((s+1 : Nat) : Int) by rw [wr (by omega) (by omega)]; rfl]
             refine yas ?_
             refine ynil' (kthn ?_)
             exact hL2 (s + 1) (by first | omega | (dsimp only; omega)) (by omega) _ _ zsub zge
           ·(try simp only [sH] at h159)
            refine cexit (kthx (kthx (kbx (kbn (kthn (hK16 _ _ ?_))))))
            clear hK16
            refine creg ?_
            refine ymv ?_
            refine y (ev_add rfl rfl) rfl ?_
            rw [show IntKind.i64.wrap ((z:Int) + 1) = ((z+1 : Nat) : Int) by rw [wr (by omega) (by omega)]; rfl]
            refine yas ?_
            refine ynil' (kthn ?_)
            first | exact hL1 (z + 1, ⟨D, E, tt⟩) ⟨hS, by dsimp only; omega, by dsimp only; omega⟩ (by dsimp only; omega) _ _ zsub zge | exact hL1 (z + 1, ⟨D, E, none⟩) ⟨hS, by dsimp only; omega, by dsimp only; omega⟩ (by dsimp only; omega) _ _ zsub zge
          ·(try simp only [sH] at h155)
           refine ygz ?_
           refine ygz ?_
           refine ypb ?_
           refine ynil' (kthn (hK36 _ _ ?_))
           clear hK36
           refine ccond0 rfl ?_
           refine cexit (kthx (kthx (kbx (kbn (kthn (hK16 _ _ ?_))))))
           clear hK16
           refine creg ?_
           refine ymv ?_
           refine y (ev_add rfl rfl) rfl ?_
           rw [show IntKind.i64.wrap ((z:Int) + 1) = ((z+1 : Nat) : Int) by rw [wr (by omega) (by omega)]; rfl]
           refine yas ?_
           refine ynil' (kthn ?_)
           first | exact hL1 (z + 1, ⟨D, E, tt⟩) ⟨hS, by dsimp only; omega, by dsimp only; omega⟩ (by dsimp only; omega) _ _ zsub zge | exact hL1 (z + 1, ⟨D, E, none⟩) ⟨hS, by dsimp only; omega, by dsimp only; omega⟩ (by dsimp only; omega) _ _ zsub zge
        clear hK21
        refine cseq ?_; intro K41 hK41
        refine creg ?_
        refine y (ev_fieldAddr 0 rfl Tryz.underlying68 rfl Tryz.sizeOf3) rfl ?_
        refine y (ev_load rfl Tryz.isAgg3 zin rfl) rfl ?_
        refine ynil' (kthn (hK41 _ _ ?_))
        clear hK41
        refine cblock ?_
        refine cseq ?_; intro K42 hK42
        refine creg ?_
        refine y (ev_eql rfl rfl) rfl ?_
        refine yas ?_
        refine ynil' (kthn (hK42 _ _ ?_))
        clear hK42
        refine ccond rfl (fun h200 => ?_) (fun h200 => ?_)
        ·(try simp only [sH] at h200)
         refine cseq ?_; intro K43 hK43
         refine cseq ?_; intro K44 hK44
         refine creg ?_
         rcases t with _ | ⟨P, S⟩
         ·skip
          refine ymv ?_
          refine y (ev_eqlPnil rfl rfl Tryz.underlying61) rfl ?_
          refine ynil' (kthn (hK44 _ _ ?_))
          clear hK44
          refine ccond1 rfl ?_
          refine cexit (kthx (kbp rfl (kthx (kbx (kthn (hK16 _ _ ?_))))))
          clear hK16
          refine creg ?_
          refine ymv ?_
          refine y (ev_add rfl rfl) rfl ?_
          rw [show IntKind.i64.wrap ((z:Int) + 1) = ((z+1 : Nat) : Int) by rw [wr (by omega) (by omega)]; rfl]
          refine yas ?_
          refine ynil' (kthn ?_)
          first | exact hL1 (z + 1, ⟨D, E, tt⟩) ⟨hS, by dsimp only; omega, by dsimp only; omega⟩ (by dsimp only; omega) _ _ zsub zge | exact hL1 (z + 1, ⟨D, E, none⟩) ⟨hS, by dsimp only; omega, by dsimp only; omega⟩ (by dsimp only; omega) _ _ zsub zge
         ·skip
          refine ymv ?_
          refine y (ev_eqlPnil rfl rfl Tryz.underlying61) rfl ?_
          refine ynil' (kthn (hK44 _ _ ?_))
          clear hK44
          refine ccond0 rfl ?_
          refine cskip' (kthn (hK43 _ _ ?_))
          clear hK43
          refine cseq ?_; intro K45 hK45
          refine creg ?_
          refine ymv ?_
          refine y (ev_fieldAddr 2 rfl Tryz.underlying68 rfl Tryz.sizeOf37) rfl ?_
          refine y (ev_loadN (u := yy.m.cells) rfl Tryz.isAgg37 Tryz.sizeOf37 zin rfl rfl) rfl ?_
          refine ycall (bTake (m := yy.m) hS.l.1) rfl Tryz.call32 ztk rfl ?_
          rintro v L' ⟨rfl, rfl⟩
          refine ymv ?_
          refine yxt ?_
          refine yxt ?_
          refine ya (ac_alloc Tryz.zeroValue37 rfl) rfl ?_
          rintro v L' ⟨b19, rfl, rfl⟩
          refine ya0 (ac_storeN rfl rfl (msg_one _) Tryz.sizeOf37 zrp rfl (by simp [MsgM.cells]) rfl) ?_
          rintro v L' ⟨rfl, rfl⟩
          refine yas ?_
          refine ynil' (kthn (hK45 _ _ ?_))
          clear hK45
          refine cseq ?_; intro K46 hK46
          refine creg ?_
          refine ymv ?_
          refine y (ev_fieldAddr 2 rfl Tryz.underlying68 rfl Tryz.sizeOf37) rfl ?_
          refine y (ev_loadN (u := yy.m.cells) rfl Tryz.isAgg37 Tryz.sizeOf37 zin rfl rfl) rfl ?_
          refine ycall (xbTake (m := yy.m) hS.l.2 hS.r) rfl Tryz.call33 ztk rfl ?_
          rintro v L' ⟨rfl, rfl⟩
          obtain ⟨e1, e2, e3⟩ := StoM.takeR_rel hS.r S yy.m
          rw [← e1, ← e2]
          have hSn := BdM.ok.of (z := P) e3 ((StoM.take_l yy.m).trans hS.len) (StoM.take_ok hS.l.1 yy.m) (by rw [StoM.take_bs]; exact hS.l.2.wf.lp)
          have hbl := StoM.take_bs (S := S) (D := D) yy.m
          rw [← hbl]
          generalize S.take D yy.m = r at *
          refine ymv ?_
          refine yxt ?_
          refine yxt ?_
          refine ya (ac_alloc Tryz.zeroValue37 rfl) rfl ?_
          rintro v L' ⟨b21, rfl, rfl⟩
          refine ya0 (ac_storeN rfl rfl (msg_one _) Tryz.sizeOf37 zrp rfl (by simp [MsgM.cells]) rfl) ?_
          rintro v L' ⟨rfl, rfl⟩
          refine yas ?_
          refine ynil' (kthn (hK46 _ _ ?_))
          clear hK46
          refine cseq ?_; intro K47 hK47
          refine creg ?_
          skip
          ·skip
           refine y (ev_loadN (u := r.1.1.cells) rfl Tryz.isAgg37 Tryz.sizeOf37 zin rfl rfl) rfl ?_
           refine y (ev_loadN (u := r.1.1.cells) rfl Tryz.isAgg37 Tryz.sizeOf37 zin rfl rfl) rfl ?_
           refine y (ev_neqF (p := True) rfl rfl (by kernel_rfl) (by simp)) rfl ?_
           rw [show (!decide True) = false by simp]
           refine ymv ?_
           refine ygo ?_
           refine ymv ?_
           refine ygo ?_
           refine ymv ?_
           refine ygo ?_
           refine y (ev_neqB rfl rfl Tryz.underlying4) rfl ?_
           rw [show (!(r.1.2 == r.1.2)) = false by simp]
           refine ypb ?_
           refine ynil' (kthn (hK47 _ _ ?_))
           clear hK47
           refine ccond0 rfl ?_
           refine cskip' (kbn (kthn ?_))
           first | (have hSn1 := hSn; exact ksub zsub zge (hJr37 _ hSn1)) | exact ksub zsub zge (hJr37 _ hS)
        ·(try simp only [sH] at h200)
         refine cseq ?_; intro K48 hK48
         refine creg ?_
         refine y (ev_eql rfl rfl) rfl ?_
         refine yas ?_
         refine ynil' (kthn (hK48 _ _ ?_))
         clear hK48
         refine ccond rfl (fun h238 => ?_) (fun h238 => ?_)
         ·(try simp only [sH] at h238)
          refine cseq ?_; intro K49 hK49
          refine creg ?_
          refine ymv ?_
          refine y (ev_fieldAddr 16 rfl Tryz.underlying68 rfl Tryz.sizeOf38) rfl ?_
          refine y (ev_load rfl Tryz.isAgg38 zin rfl) rfl ?_
          refine ycall (secCrash (ks := yy.ks) ?ok242 ?ks242) rfl Tryz.call15 ztk rfl ?_
          case ok242 => first | exact hS.r.ok | exact hS.r.rok
          case ks242 => exact hact.keeps.mono zge
          rintro v L' ⟨rfl, rfl⟩
          refine ynil' (kthn (hK49 _ _ ?_))
          clear hK49
          refine cseq ?_; intro K50 hK50
          refine creg ?_
          refine ymv ?_
          refine y (ev_fieldAddr 16 rfl Tryz.underlying68 rfl Tryz.sizeOf38) rfl ?_
          refine y (ev_load rfl Tryz.isAgg38 zin rfl) rfl ?_
          refine ycall (xbKeeps (ks := yy.ks) ?ks246 ?six246) rfl Tryz.call34 ztk rfl ?_
          case ks246 => exact hact.keeps.mono zge
          case six246 => omega
          rintro v L' ⟨s127, rfl, ok127, rfl⟩
          refine ycall (rdCrash (ks := yy.ks) ?ok247 ?ks247) rfl Tryz.call16 ztk rfl ?_
          case ok247 => first | exact hS.r.ok | exact hS.r.rok
          case ks247 => exact rdV_sv zin ok127
          rintro v L' ⟨rfl, rfl⟩
          refine ynil' (kthn (hK50 _ _ ?_))
          clear hK50
          refine cseq ?_; intro K51 hK51
          refine creg ?_
          have hR1 := hS.r.crash yy.ks
          have hl1 : (D.crash yy.ks).l.length = n.toNat := by rw [← hS.len]; simp [Dev.crash, crashL_length]
          generalize D.crash yy.ks = D1 at *
          generalize E.crash yy.ks = E1 at *
          refine ymv ?_
          refine ymv ?_
          refine ymv ?_
          by_cases ho1 : stoE D1 f bl = 0
          ·skip
           first | (refine ycall (ubOpenOk hR1.ok ho1) rfl Tryz.call29 ztk rfl ?_; rintro v L' ⟨s52, t52, ps52, rfl, hp52, rfl⟩) | (refine ycall (ubOpenBad hR1.ok ho1) rfl Tryz.call29 ztk rfl ?_; rintro v L' ⟨rfl, rfl⟩)
           refine ymv ?_
           refine yxt ?_
           refine yxt ?_
           refine yas ?_
           refine yas ?_
           refine ynil' (kthn (hK51 _ _ ?_))
           clear hK51
           refine cseq ?_; intro K52 hK52
           refine creg ?_
           refine ymv ?_
           refine ymv ?_
           refine ymv ?_
           first | (refine ycall (vbOpenOk hR1 ho1) rfl Tryz.call30 ztk rfl ?_; rintro v L' ⟨s60, c60, b60, cap60, sp60, ps60, rfl, hp60, rfl⟩; have hSn := BdM.ok.of (z := ⟨s52, t52, ps52, s60, c60, b60, cap60, sp60, ps60⟩) hR1 hl1 (sto_any hR1.ok ho1 hp52) (by rw [openS_n]; exact hp60)) | (refine ycall (vbOpenBad hR1 ho1) rfl Tryz.call30 ztk rfl ?_; rintro v L' ⟨rfl, rfl⟩; have hSn := BdM.ok.none' hR1 hl1)
           refine ymv ?_
           refine yxt ?_
           refine yxt ?_
           refine yas ?_
           refine yas ?_
           refine ynil' (kthn (hK52 _ _ ?_))
           clear hK52
           refine cseq ?_; intro K53 hK53
           refine creg ?_
           refine ymv ?_
           refine ymv ?_
           refine y (ev_neq rfl rfl) rfl ?_
           try rw [show (!decide (stoE D1 f bl = stoE D1 f bl)) = false by simp]
           refine ymv ?_
           refine ygo ?_
           refine ymv ?_
           refine ygo ?_
           refine y (ev_eqlPnil rfl rfl Tryz.underlying61) rfl ?_
           refine ygo ?_
           refine ymv ?_
           refine ygo ?_
           refine y (ev_eqlPnil rfl rfl Tryz.underlying64) rfl ?_
           refine ygo ?_
           refine y (ev_neqB rfl rfl Tryz.underlying4) rfl ?_
           refine ypb ?_
           refine ynil' (kthn (hK53 _ _ ?_))
           clear hK53
           refine ccond0 rfl ?_
           refine cskip' (kbn (kthn ?_))
           first | (have hSn1 := hSn; exact ksub zsub zge (hJr37 _ hSn1)) | exact ksub zsub zge (hJr37 _ hS)
          ·skip
           first | (refine ycall (ubOpenOk hR1.ok ho1) rfl Tryz.call29 ztk rfl ?_; rintro v L' ⟨s52, t52, ps52, rfl, hp52, rfl⟩) | (refine ycall (ubOpenBad hR1.ok ho1) rfl Tryz.call29 ztk rfl ?_; rintro v L' ⟨rfl, rfl⟩)
           refine ymv ?_
           refine yxt ?_
           refine yxt ?_
           refine yas ?_
           refine yas ?_
           refine ynil' (kthn (hK51 _ _ ?_))
           clear hK51
           refine cseq ?_; intro K54 hK54
           refine creg ?_
           refine ymv ?_
           refine ymv ?_
           refine ymv ?_
           first | (refine ycall (vbOpenOk hR1 ho1) rfl Tryz.call30 ztk rfl ?_; rintro v L' ⟨s60, c60, b60, cap60, sp60, ps60, rfl, hp60, rfl⟩; have hSn := BdM.ok.of (z := ⟨s52, t52, ps52, s60, c60, b60, cap60, sp60, ps60⟩) hR1 hl1 (sto_any hR1.ok ho1 hp52) (by rw [openS_n]; exact hp60)) | (refine ycall (vbOpenBad hR1 ho1) rfl Tryz.call30 ztk rfl ?_; rintro v L' ⟨rfl, rfl⟩; have hSn := BdM.ok.none' hR1 hl1)
           refine ymv ?_
           refine yxt ?_
           refine yxt ?_
           refine yas ?_
           refine yas ?_
           refine ynil' (kthn (hK54 _ _ ?_))
           clear hK54
           refine cseq ?_; intro K55 hK55
           refine creg ?_
           refine ymv ?_
           refine ymv ?_
           refine y (ev_neq rfl rfl) rfl ?_
           try rw [show (!decide (stoE D1 f bl = stoE D1 f bl)) = false by simp]
           refine ymv ?_
           refine ygo ?_
           refine ymv ?_
           refine ygo ?_
           refine y (ev_eqlPnil rfl rfl Tryz.underlying61) rfl ?_
           refine ygo ?_
           refine ymv ?_
           refine ygo ?_
           refine y (ev_eqlPnil rfl rfl Tryz.underlying64) rfl ?_
           refine ygo ?_
           refine y (ev_neqB rfl rfl Tryz.underlying4) rfl ?_
           refine ypb ?_
           refine ynil' (kthn (hK55 _ _ ?_))
           clear hK55
           refine ccond0 rfl ?_
           refine cskip' (kbn (kthn ?_))
           first | (have hSn1 := hSn; exact ksub zsub zge (hJr37 _ hSn1)) | exact ksub zsub zge (hJr37 _ hS)
         ·(try simp only [sH] at h238)
          refine cseq ?_; intro K56 hK56
          refine creg ?_
          refine y (ev_eql rfl rfl) rfl ?_
          refine yas ?_
          refine ynil' (kthn (hK56 _ _ ?_))
          clear hK56
          refine ccond rfl (fun h303 => ?_) (fun h303 => ?_)
          ·(try simp only [sH] at h303)
           refine cseq ?_; intro K57 hK57
           refine creg ?_
           refine ymv ?_
           refine y (ev_fieldAddr 1 rfl Tryz.underlying68 rfl Tryz.sizeOf3) rfl ?_
           refine y (ev_load rfl Tryz.isAgg3 zin rfl) rfl ?_
           refine ycall (secFuse) rfl Tryz.call18 ztk rfl ?_
           rintro v L' ⟨rfl, rfl⟩
           refine ynil' (kthn (hK57 _ _ ?_))
           clear hK57
           refine creg ?_
           refine ymv ?_
           refine y (ev_fieldAddr 1 rfl Tryz.underlying68 rfl Tryz.sizeOf3) rfl ?_
           refine y (ev_load rfl Tryz.isAgg3 zin rfl) rfl ?_
           refine ycall (rdFuse) rfl Tryz.call19 ztk rfl ?_
           rintro v L' ⟨rfl, rfl⟩
           have hSn := hS.dev (hS.r.setFuse hact.n.2) (show (D.setFuse yy.n).l.length = n.toNat from hS.len)
           refine ynil' (kbn (kthn ?_))
           first | (have hSn1 := hSn; exact ksub zsub zge (hJr37 _ hSn1)) | exact ksub zsub zge (hJr37 _ hS)
          ·(try simp only [sH] at h303)
           refine cseq ?_; intro K58 hK58
           refine creg ?_
           refine y (ev_eql rfl rfl) rfl ?_
           refine yas ?_
           refine ynil' (kthn (hK58 _ _ ?_))
           clear hK58
           refine ccond rfl (fun h314 => ?_) (fun h314 => ?_)
           ·(try simp only [sH] at h314)
            refine cseq ?_; intro K59 hK59
            refine creg ?_
            refine ymv ?_
            refine y (ev_fieldAddr 1 rfl Tryz.underlying68 rfl Tryz.sizeOf3) rfl ?_
            refine y (ev_load rfl Tryz.isAgg3 zin rfl) rfl ?_
            refine y (ev_fieldAddr 15 rfl Tryz.underlying68 rfl Tryz.sizeOf9) rfl ?_
            refine y (ev_load rfl Tryz.isAgg9 zin rfl) rfl ?_
            refine ya (ac_toBytesY rfl Tryz.underlying9 Tryz.underlying50 Tryz.underlying5) rfl ?_
            rintro v L' ⟨b192, c192, sp192, fr192, rfl, hc192, rfl⟩
            refine ycall (secWrite (bs := yy.s) ?ok321 ?rd321) rfl Tryz.call20 ztk rfl ?_
            case ok321 => first | exact hS.r.ok | exact hS.r.rok
            case rd321 => exact rdB_in zin rfl (by simp)
            rintro v L' ⟨rfl, rfl⟩
            refine ynil' (kthn (hK59 _ _ ?_))
            clear hK59
            refine creg ?_
            refine ymv ?_
            refine y (ev_fieldAddr 1 rfl Tryz.underlying68 rfl Tryz.sizeOf3) rfl ?_
            refine y (ev_load rfl Tryz.isAgg3 zin rfl) rfl ?_
            refine y (ev_fieldAddr 15 rfl Tryz.underlying68 rfl Tryz.sizeOf9) rfl ?_
            refine y (ev_load rfl Tryz.isAgg9 zin rfl) rfl ?_
            refine ya (ac_toBytesY rfl Tryz.underlying9 Tryz.underlying50 Tryz.underlying5) rfl ?_
            rintro v L' ⟨b199, c199, sp199, fr199, rfl, hc199, rfl⟩
            refine ycall (rdWrite (bs := yy.s) ?ok328 ?rd328) rfl Tryz.call21 ztk rfl ?_
            case ok328 => first | exact hS.r.ok | exact hS.r.rok
            case rd328 => exact rdB_in zin rfl (by simp)
            rintro v L' ⟨rfl, rfl⟩
            obtain ⟨e1, e2⟩ := hS.r.write yy.n yy.s
            have hSn := hS.dev e2 (show (D.write yy.n yy.s).2.l.length = n.toNat by rw [write_l]; exact hS.len)
            refine ynil' (kbn (kthn ?_))
            first | (have hSn1 := hSn; exact ksub zsub zge (hJr37 _ hSn1)) | exact ksub zsub zge (hJr37 _ hS)
           ·(try simp only [sH] at h314)
            have hSn := hS
            refine cskip' (kbn (kthn ?_))
            first | (have hSn1 := hSn; exact ksub zsub zge (hJr37 _ hSn1)) | exact ksub zsub zge (hJr37 _ hS)
      ·(try simp only [sH] at h45)
       refine cexit (kthx (kthx (kbx (kthn ?_))))
       exact ksub zsub zge (hJ1 ⟨z, D, E, t⟩ ⟨hI1o, by first | trivial | omega⟩)
     ·(try simp only [sH] at h41)
      refine ygz ?_
      refine ygz ?_
      refine ypb ?_
      refine ynil' (kthn (hK15 _ _ ?_))
      clear hK15
      refine ccond0 rfl ?_
      refine cexit (kthx (kthx (kbx (kthn ?_))))
      exact ksub zsub zge (hJ1 ⟨z, D, E, t⟩ ⟨hI1o, by first | trivial | omega⟩)
    clear hK10
    refine cseq ?_; intro K60 hK60
    refine creg ?_
    refine ymv ?_
    refine ymv ?_
    refine y (ev_neq rfl rfl) rfl ?_
    try rw [show (!decide (stoE D0 f bl = stoE D0 f bl)) = false by simp]
    refine ymv ?_
    refine ygo ?_
    refine ymv ?_
    refine ygo ?_
    refine y (ev_eqlPnil rfl rfl Tryz.underlying61) rfl ?_
    refine ygo ?_
    refine ymv ?_
    refine ygo ?_
    refine y (ev_eqlPnil rfl rfl Tryz.underlying64) rfl ?_
    refine ygo ?_
    refine y (ev_neqB rfl rfl Tryz.underlying4) rfl ?_
    refine ypb ?_
    refine ynil' (kthn (hK60 _ _ ?_))
    clear hK60
    refine ccond0 rfl ?_
    refine cskip' (kthn ?_)
    exact ksub zsub zge (hJr11 t0 hS0)
   ·skip
    first | (refine ycall (ubOpenOk hR0.ok ho) rfl Tryz.call29 ztk rfl ?_; rintro v L' ⟨s52, t52, ps52, rfl, hp52, rfl⟩) | (refine ycall (ubOpenBad hR0.ok ho) rfl Tryz.call29 ztk rfl ?_; rintro v L' ⟨rfl, rfl⟩)
    refine ymv ?_
    refine yxt ?_
    refine yxt ?_
    refine yas ?_
    refine yas ?_
    refine ynil' (kthn (hK8 _ _ ?_))
    clear hK8
    refine cseq ?_; intro K61 hK61
    refine creg ?_
    refine ymv ?_
    refine ymv ?_
    refine ymv ?_
    first | (refine ycall (vbOpenOk hR0 ho) rfl Tryz.call30 ztk rfl ?_; rintro v L' ⟨s60, c60, b60, cap60, sp60, ps60, rfl, hp60, rfl⟩; have hS0 := BdM.ok.of (z := ⟨s52, t52, ps52, s60, c60, b60, cap60, sp60, ps60⟩) hR0 hl0 (sto_any hR0.ok ho hp52) (by rw [openS_n]; exact hp60); let t0 : TwB := some (⟨s52, t52, ps52, s60, c60, b60, cap60, sp60, ps60⟩, openS D0 f bl.toNat)) | (refine ycall (vbOpenBad hR0 ho) rfl Tryz.call30 ztk rfl ?_; rintro v L' ⟨rfl, rfl⟩; have hS0 := BdM.ok.none' hR0 hl0; let t0 : TwB := none)
    refine ymv ?_
    refine yxt ?_
    refine yxt ?_
    refine yas ?_
    refine yas ?_
    refine ynil' (kthn (hK61 _ _ ?_))
    clear hK61
    refine cseq ?_; intro K62 hK62
    have hJr11 : ∀ x : TwB, (BdM.ok ⟨D0, E0, x⟩ n.toNat) → Sk 250 K62 ([(15, ubV2 x), (13, ubV1 x), (12, ptr p34), (11, dp q32), (0, i64 n), (1, i64 f), (2, i64 bl), (3, lv), (4, i64 k0)]) ([ubA x, ubB q32 x, ubC q32 x, ubD x, ubE x, ubF p34 x, ubG p34 x, dev q32 D0, rdev p34 la34 E0] ++ R) := by
     rintro t0 hIr11
     refine hK62 _ _ ?_
     have hS0 := hIr11
     refine cseq ?_; intro K63 hK63
     refine cseq ?_; intro K64 hK64
     refine creg ?_
     refine yas ?_
     refine ynil' (kthn (hK64 _ _ ?_))
     clear hK64
     have hJ1 : ∀ x : Nat × BdM, ((x.2.ok n.toNat ∧ x.1 ≤ acts.length ∧ x.1 ≤ 60) ∧ (True)) → Sk 250 K63 ([(17, i64 x.1), (15, ubV2 x.2.t), (13, ubV1 x.2.t), (12, ptr p34), (11, dp q32), (0, i64 n), (1, i64 f), (2, i64 bl), (3, lv), (4, i64 k0)]) ([ubA x.2.t, ubB q32 x.2.t, ubC q32 x.2.t, ubD x.2.t, ubE x.2.t, ubF p34 x.2.t, ubG p34 x.2.t, dev q32 x.2.D, rdev p34 la34 x.2.E] ++ R) := by
      rintro ⟨z, D, E, t⟩ ⟨hI1, hX1⟩
      refine hK63 _ _ ?_
      obtain ⟨hS, hz1, hz2⟩ := hI1; dsimp only at hS hz1 hz2 ⊢
      refine cseq ?_; intro K65 hK65
      refine creg ?_
      refine yas ?_
      refine ynil' (kthn (hK65 _ _ ?_))
      clear hK65
      refine cret ?_
      first
        | (exfalso; omega; done)
        | (refine kretv Tryz.results4 rfl (L1 := R) zge ?_
           exact ⟨_, ⟨by first | rfl | (exfalso; simp_all; done), rfl⟩, by first | rfl | (exfalso; simp_all; done)⟩)
     clear hK63
     refine cblock ?_
     refine cloop (A := Nat × BdM) (fun x => [(17, i64 x.1), (15, ubV2 x.2.t), (13, ubV1 x.2.t), (12, ptr p34), (11, dp q32), (0, i64 n), (1, i64 f), (2, i64 bl), (3, lv), (4, i64 k0)]) (fun x => [ubA x.2.t, ubB q32 x.2.t, ubC q32 x.2.t, ubD x.2.t, ubE x.2.t, ubF p34 x.2.t, ubG p34 x.2.t, dev q32 x.2.D, rdev p34 la34 x.2.E] ++ R) (fun x => x.2.ok n.toNat ∧ x.1 ≤ acts.length ∧ x.1 ≤ 60) (fun x => acts.length - x.1) ((0, ⟨D0, E0, t0⟩)) ?_ zsub zge ?_
     · exact ⟨hS0, Nat.zero_le _, Nat.zero_le _⟩
     rintro ⟨z, D, E, t⟩ hI1 KL1 hL1
     have hI1o := hI1
     obtain ⟨hS, hz1, hz2⟩ := hI1; dsimp only at hS hz1 hz2 ⊢
     refine cseq ?_; intro K66 hK66
     refine cseq ?_; intro K67 hK67
     refine creg ?_
     refine ymv ?_
     refine ymv ?_
     first
       | refine y (ev_len rfl Tryz.underlying60) rfl ?_
       | refine y (ev_lenSv rfl Tryz.underlying60 (by assumption)) rfl ?_
       | refine y (ev_lenV rfl Tryz.underlying60 (RdV.lenVal (by assumption))) rfl ?_
       | refine y (ev_lenV rfl Tryz.underlying60 (RdB.lenVal (by assumption))) rfl ?_
     refine y (ev_lss rfl rfl) rfl ?_
     refine ymv ?_
     refine ysplit 78 rfl (fun h362 => ?_) (fun h362 => ?_)
     ·(try simp only [sH] at h362)
      refine ygo ?_
      refine ymv ?_
      refine ygo ?_
      refine y (ev_lss rfl rfl) rfl ?_
      refine ypa ?_
      refine ynil' (kthn (hK67 _ _ ?_))
      clear hK67
      refine ccond rfl (fun h366 => ?_) (fun h366 => ?_)
      ·(try simp only [sH] at h366)
       obtain ⟨yy, hy⟩ : ∃ yy, acts[z]? = some yy := ⟨_, List.getElem?_eq_getElem (by omega)⟩
       have hact := haa yy (List.mem_of_getElem? hy)
       refine cskip' (kthn (hK66 _ _ ?_))
       clear hK66
       refine cseq ?_; intro K68 hK68
       refine cblock ?_
       refine cseq ?_; intro K69 hK69
       refine creg ?_
       refine ymv ?_
       refine ymv ?_
       first
         | refine y (ev_ixAddr rfl rfl Tryz.underlying60 Tryz.sizeOf68 (by omega) (by omega)) rfl ?_
         | refine y (ev_ixV (by assumption) rfl rfl Tryz.underlying60 Tryz.sizeOf68 (by omega) (by omega)) rfl ?_
       refine y (ev_loadNV (us := yy.cells) (z * 17) hl zge rfl Tryz.isAgg68 Tryz.sizeOf68 (by simp) (actbsV_get hy) rfl) rfl ?_
       refine ya (ac_alloc Tryz.zeroValue68 rfl) rfl ?_
       rintro v L' ⟨b18, rfl, rfl⟩
       refine ya0 (ac_storeN rfl rfl hact.one Tryz.sizeOf68 zrp rfl (by simp [ActB.cells, MsgM.cells]) rfl) ?_
       rintro v L' ⟨rfl, rfl⟩
       refine ynil' (kthn (hK69 _ _ ?_))
       clear hK69
       refine cseq ?_; intro K70 hK70
       refine cseq ?_; intro K71 hK71
       refine creg ?_
       refine y (ev_loadN (u := yy.cells) rfl Tryz.isAgg68 Tryz.sizeOf68 zin rfl rfl) rfl ?_
       refine ycall (xbLarge ?lx374) rfl Tryz.call31 ztk rfl ?_
       case lx374 => exact hact.mono zge
       rintro v L' ⟨big89, rfl, hbig89, rfl⟩
       refine ynil' (kthn (hK71 _ _ ?_))
       clear hK71
       refine ccond rfl (fun h375 => ?_) (fun h375 => ?_)
       ·(try simp only [sH] at h375)
        refine cseq ?_; intro K72 hK72
        refine creg ?_
        refine yas ?_
        refine ynil' (kthn (hK72 _ _ ?_))
        clear hK72
        refine cret (kthr (kbr (kthr (kthr (kbr (kthr ?_))))))
        first
          | (exfalso; omega; done)
          | (refine kretv Tryz.results4 rfl (L1 := R) zge ?_
             exact ⟨_, ⟨by first | rfl | (exfalso; simp_all; done), rfl⟩, by first | rfl | (exfalso; simp_all; done)⟩)
       ·(try simp only [sH] at h375)
        have hlg := hbig89 h375
        refine cskip' (kthn (hK70 _ _ ?_))
        clear hK70
        refine cseq ?_; intro K73 hK73
        have hJr37 : ∀ x : BdM, (x.ok n.toNat) → Sk 250 K73 ([(17, i64 z), (15, ubV2 x.t), (13, ubV1 x.t), (12, ptr p34), (11, dp q32), (0, i64 n), (1, i64 f), (2, i64 bl), (3, lv), (4, i64 k0)]) ([ubA x.t, ubB q32 x.t, ubC q32 x.t, ubD x.t, ubE x.t, ubF p34 x.t, ubG p34 x.t, dev q32 x.D, rdev p34 la34 x.E] ++ R) := by
         rintro ⟨D, E, t⟩ hIr37
         refine hK73 _ _ ?_
         clear hS; have hS := hIr37; dsimp only at hS ⊢
         refine cseq ?_; intro K74 hK74
         refine cseq ?_; intro K75 hK75
         refine creg ?_
         rcases t with _ | ⟨P, S⟩
         ·skip
          refine ymv ?_
          refine y (ev_neqPnil rfl rfl Tryz.underlying61) rfl ?_
          first | (let tt : TwB := some (P, S); have hSl : S.ok D P.ps := hS.l.1; have hSq : S.ok D P.qs := hS.l.2) | (let tt : TwB := none)
          refine ynil' (kthn (hK75 _ _ ?_))
          clear hK75
          refine ccond0 rfl ?_
          refine cskip' (kthn (hK74 _ _ ?_))
          clear hK74
          refine cseq ?_; intro K76 hK76
          refine creg ?_
          refine yas ?_
          refine ynil' (kthn (hK76 _ _ ?_))
          clear hK76
          refine cblock ?_
          refine cloop (A := Nat) (fun x => [(27, i64 x), (17, i64 z), (15, ubV2 tt), (13, ubV1 tt), (12, ptr p34), (11, dp q32), (0, i64 n), (1, i64 f), (2, i64 bl), (3, lv), (4, i64 k0)]) (fun x => [ubA tt, ubB q32 tt, ubC q32 tt, ubD tt, ubE tt, ubF p34 tt, ubG p34 tt, dev q32 D, rdev p34 la34 E] ++ R) (fun x => x ≤ 12) (fun x => 12 - x) (0) ?_ zsub zge ?_
          · exact Nat.zero_le _
          rintro s hI2 KL2 hL2
          have hs6 := hI2
          refine cseq ?_; intro K77 hK77
          refine cseq ?_; intro K78 hK78
          refine creg ?_
          refine ymv ?_
          refine ymv ?_
          refine y (ev_lss rfl rfl) rfl ?_
          refine ymv ?_
          refine ysplit 222 rfl (fun h384 => ?_) (fun h384 => ?_)
          ·(try simp only [sH] at h384)
           refine ygo ?_
           refine ymv ?_
           refine ygo ?_
           refine y (ev_lss rfl rfl) rfl ?_
           refine ypa ?_
           refine ynil' (kthn (hK78 _ _ ?_))
           clear hK78
           refine ccond rfl (fun h388 => ?_) (fun h388 => ?_)
           ·(try simp only [sH] at h388)
            refine cskip' (kthn (hK77 _ _ ?_))
            clear hK77
            refine cseq ?_; intro K79 hK79
            refine cblock ?_
            refine cseq ?_; intro K80 hK80
            refine creg ?_
            refine ymv ?_
            refine ymv ?_
            refine ycall (secReadU hS.r.ok) rfl Tryz.call26 ztk rfl ?_
            rintro v L' ⟨s231, rfl, ok231, rfl⟩
            refine ymv ?_
            refine yxt ?_
            refine yxt ?_
            refine yas ?_
            refine yas ?_
            refine ynil' (kthn (hK80 _ _ ?_))
            clear hK80
            refine cseq ?_; intro K81 hK81
            refine creg ?_
            refine ymv ?_
            refine ymv ?_
            refine ycall (rdReadU hS.r.rok (fun h => by rw [← hS.r.has] at h; obtain ⟨-, q0, q1⟩ := has_zero h; rw [← hS.r.sec q0 q1]; exact sec_length hS.r.ok _)) rfl Tryz.call27 ztk rfl ?_
            rintro v L' ⟨s237, rfl, ok237, rfl⟩
            rw [← hS.r.rdB, ← hS.r.has] at *
            have hb231 : RdB [svSeg s231 5 (bytesV (D.rdB s))] (svVal s231 (D.rdB s).length) (D.rdB s) := rdB_sv .z ok231
            have hb237 : RdB [svSeg s237 5 (bytesV (D.rdB s))] (svVal s237 (D.rdB s).length) (D.rdB s) := rdB_sv .z ok237
            generalize D.rdB s = bs at *
            refine ymv ?_
            refine yxt ?_
            refine yxt ?_
            refine yas ?_
            refine yas ?_
            refine ynil' (kthn (hK81 _ _ ?_))
            clear hK81
            refine cseq ?_; intro K82 hK82
            refine creg ?_
            skip
            ·skip
             refine ymv ?_
             refine y (ev_toStrB hb231 zge rfl Tryz.underlying50 Tryz.underlying9 Tryz.underlying5) rfl ?_
             refine ymv ?_
             refine y (ev_toStrB hb237 zge rfl Tryz.underlying50 Tryz.underlying9 Tryz.underlying5) rfl ?_
             first
               | refine y (ev_neqL rfl rfl) rfl ?_
               | refine y (ev_neqS rfl rfl) rfl ?_
             rw [show decide (bs ≠ bs) = false by simp]
             refine ymv ?_
             refine ygo ?_
             refine ymv ?_
             refine ygo ?_
             refine ymv ?_
             refine ygo ?_
             refine y (ev_neq rfl rfl) rfl ?_
             rw [show (!decide (D.has s = D.has s)) = false by simp]
             refine ypb ?_
             refine ynil' (kthn (hK82 _ _ ?_))
             clear hK82
             refine ccond0 rfl ?_
             refine cskip' (kbn (kthn (hK79 _ _ ?_)))
             clear hK79
             refine creg ?_
             refine ymv ?_
             refine y (ev_add rfl rfl) rfl ?_
             rw [show IntKind.i64.wrap ((s:Int) + 1) = ((s+1 : Nat) : Int) by rw [wr (by omega) (by omega)]; rfl]
             refine yas ?_
             refine ynil' (kthn ?_)
             exact hL2 (s + 1) (by first | omega | (dsimp only; omega)) (by omega) _ _ zsub zge
           ·(try simp only [sH] at h388)
            refine cexit (kthx (kthx (kbx (kbn (kthn (hK68 _ _ ?_))))))
            clear hK68
            refine creg ?_
            refine ymv ?_
            refine y (ev_add rfl rfl) rfl ?_
            rw [show IntKind.i64.wrap ((z:Int) + 1) = ((z+1 : Nat) : Int) by rw [wr (by omega) (by omega)]; rfl]
            refine yas ?_
            refine ynil' (kthn ?_)
            first | exact hL1 (z + 1, ⟨D, E, tt⟩) ⟨hS, by dsimp only; omega, by dsimp only; omega⟩ (by dsimp only; omega) _ _ zsub zge | exact hL1 (z + 1, ⟨D, E, none⟩) ⟨hS, by dsimp only; omega, by dsimp only; omega⟩ (by dsimp only; omega) _ _ zsub zge
          ·(try simp only [sH] at h384)
           refine ygz ?_
           refine ygz ?_
           refine ypb ?_
           refine ynil' (kthn (hK78 _ _ ?_))
           clear hK78
           refine ccond0 rfl ?_
           refine cexit (kthx (kthx (kbx (kbn (kthn (hK68 _ _ ?_))))))
           clear hK68
           refine creg ?_
           refine ymv ?_
           refine y (ev_add rfl rfl) rfl ?_
           rw [show IntKind.i64.wrap ((z:Int) + 1) = ((z+1 : Nat) : Int) by rw [wr (by omega) (by omega)]; rfl]
           refine yas ?_
           refine ynil' (kthn ?_)
           first | exact hL1 (z + 1, ⟨D, E, tt⟩) ⟨hS, by dsimp only; omega, by dsimp only; omega⟩ (by dsimp only; omega) _ _ zsub zge | exact hL1 (z + 1, ⟨D, E, none⟩) ⟨hS, by dsimp only; omega, by dsimp only; omega⟩ (by dsimp only; omega) _ _ zsub zge
         ·skip
          refine ymv ?_
          refine y (ev_neqPnil rfl rfl Tryz.underlying61) rfl ?_
          first | (let tt : TwB := some (P, S); have hSl : S.ok D P.ps := hS.l.1; have hSq : S.ok D P.qs := hS.l.2) | (let tt : TwB := none)
          refine ynil' (kthn (hK75 _ _ ?_))
          clear hK75
          refine ccond1 rfl ?_
          refine cseq ?_; intro K83 hK83
          refine creg ?_
          refine ymv ?_
          refine ymv ?_
          refine ycall (bGet hSl.wf) rfl Tryz.call35 ztk rfl ?_
          rintro v L' ⟨rfl, rfl⟩
          refine ymv ?_
          refine yxt ?_
          refine yxt ?_
          refine ya (ac_alloc Tryz.zeroValue72 rfl) rfl ?_
          rintro v L' ⟨b23, rfl, rfl⟩
          refine ya0 (ac_storeAll rfl rfl (by first | exact bytesV_one _ | (simp [Value.oneCell']; done) | (simp only [List.forall_mem_cons, List.not_mem_nil, false_implies, implies_true, svVal_one, and_true, true_and, and_self]; first | done | simp [Value.oneCell'])) Tryz.sizeOf72 zrp (by first | rfl | assumption | (simp [*]; done) | (simp [*]; omega)) (by first | rfl | assumption | (simp [*]; done) | (simp [*]; omega))) ?_
          rintro v L' ⟨rfl, rfl⟩
          refine yas ?_
          refine ynil' (kthn (hK83 _ _ ?_))
          clear hK83
          refine cseq ?_; intro K84 hK84
          refine creg ?_
          refine ymv ?_
          refine ymv ?_
          refine ycall (xbGet hSq.wf) rfl Tryz.call36 ztk rfl ?_
          rintro v L' ⟨rfl, rfl⟩
          refine ymv ?_
          refine yxt ?_
          refine yxt ?_
          refine ya (ac_alloc Tryz.zeroValue72 rfl) rfl ?_
          rintro v L' ⟨b25, rfl, rfl⟩
          refine ya0 (ac_storeAll rfl rfl (by first | exact bytesV_one _ | (simp [Value.oneCell']; done) | (simp only [List.forall_mem_cons, List.not_mem_nil, false_implies, implies_true, svVal_one, and_true, true_and, and_self]; first | done | simp [Value.oneCell'])) Tryz.sizeOf72 zrp (by first | rfl | assumption | (simp [*]; done) | (simp [*]; omega)) (by first | rfl | assumption | (simp [*]; done) | (simp [*]; omega))) ?_
          rintro v L' ⟨rfl, rfl⟩
          refine yas ?_
          refine ynil' (kthn (hK84 _ _ ?_))
          clear hK84
          refine cseq ?_; intro K85 hK85
          refine cdraw 25 [(0, true), (1, true), (2, true), (3, true), (4, true), (5, true), (6, true), (7, true), (8, true), (9, true), (11, true), (12, true), (13, true), (14, true), (10, false), (15, true), (16, true), (17, true), (18, true), (20, true), (21, true), (22, true), (23, true), (19, false), (24, true)] ([sc b23 _ 72, sc b25 _ 72, stoP P.s P.t P.ps S, rsP P.s2 P.c2 (bkV P.b2 S.bs.length P.cap) S] ++ R) Tryz.mixed (by kernel_rfl) zge ?_
          refine hr rfl (ev_loadAll rfl Tryz.isAgg72 Tryz.sizeOf72 zin (by first | rfl | assumption | (simp [*]; done) | (simp [*]; omega))) rfl ?_
          refine hr rfl (ev_loadAll rfl Tryz.isAgg72 Tryz.sizeOf72 zin (by first | rfl | assumption | (simp [*]; done) | (simp [*]; omega))) rfl ?_
          refine hr rfl (ev_neqF (p := True) rfl rfl (by kernel_rfl) (by simp)) rfl ?_
          rw [show (!decide True) = false by simp]
          refine hr rfl (ev_move rfl) rfl ?_
          refine hr1 rfl rfl rfl (ev_move rfl) rfl ?_
          refine hr1 rfl rfl rfl (ev_move rfl) rfl ?_
          first
            | refine hr1 rfl rfl rfl (ev_neqL rfl rfl) rfl ?_
            | refine hr1 rfl rfl rfl (ev_neqS rfl rfl) rfl ?_
          rw [show decide ((S.getB k0).data ≠ (S.getB k0).data) = false by simp]
          refine hr rfl (ev_pick0 rfl rfl) rfl ?_
          refine hr rfl (ev_move rfl) rfl ?_
          refine hr1 rfl rfl rfl (ev_move rfl) rfl ?_
          refine hr1 rfl rfl rfl (ev_move rfl) rfl ?_
          refine hr1 rfl rfl rfl (ev_nil rfl) rfl ?_
          refine hr1 rfl rfl rfl (ev_fieldAddr 1 rfl Tryz.underlying77 rfl Tryz.sizeOf2) rfl ?_
          refine hr1 rfl rfl rfl (ev_load rfl Tryz.isAgg2 zin rfl) rfl ?_
          refine hcall1 rfl rfl rfl (bToken) rfl Tryz.call37 ztk rfl ?_
          rintro v L' ⟨rfl, rfl⟩; refine ⟨zge, ?_⟩
          refine hr1 rfl rfl rfl (ev_neq rfl rfl) rfl ?_
          rw [show (!decide (S.epoch = S.epoch)) = false by simp]
          refine hr rfl (ev_pick0 rfl rfl) rfl ?_
          refine hr rfl (ev_move rfl) rfl ?_
          refine hr1 rfl rfl rfl (ev_move rfl) rfl ?_
          refine hr1 rfl rfl rfl (ev_move rfl) rfl ?_
          refine hr1 rfl rfl rfl (ev_nil rfl) rfl ?_
          refine hr1 rfl rfl rfl (ev_fieldAddr 3 rfl Tryz.underlying77 rfl Tryz.sizeOf35) rfl ?_
          refine hr1 rfl rfl rfl (ev_loadN (u := intsV S.tab) rfl Tryz.isAgg35 Tryz.sizeOf35 zin (by show (List.drop 3 _).take 4 = _; unfold rsV13; rw [List.drop_left' (by rfl), List.take_of_length_le (by simp [intsV, hSl.wf.tab])]) (by simp [intsV, hSl.wf.tab])) rfl ?_
          refine hcall1 rfl rfl rfl (bTable hSl.wf) rfl Tryz.call38 ztk rfl ?_
          rintro v L' ⟨rfl, rfl⟩; refine ⟨zge, ?_⟩
          refine hr1 rfl rfl rfl (ev_neqF (p := True) rfl rfl (by rw [tab4 hSl.wf.tab]; kernel_rfl) (by simp)) rfl ?_
          rw [show (!decide True) = false by simp]
          refine hnil ?_
          refine ypb ?_
          refine hnoP' (kthn (hK85 _ _ ?_))
          clear hK85
          refine ccond0 rfl ?_
          refine cskip' (kthn (hK74 _ _ ?_))
          clear hK74
          refine cseq ?_; intro K86 hK86
          refine creg ?_
          refine yas ?_
          refine ynil' (kthn (hK86 _ _ ?_))
          clear hK86
          refine cblock ?_
          refine cloop (A := Nat) (fun x => [(27, i64 x), (17, i64 z), (15, ubV2 tt), (13, ubV1 tt), (12, ptr p34), (11, dp q32), (0, i64 n), (1, i64 f), (2, i64 bl), (3, lv), (4, i64 k0)]) (fun x => [ubA tt, ubB q32 tt, ubC q32 tt, ubD tt, ubE tt, ubF p34 tt, ubG p34 tt, dev q32 D, rdev p34 la34 E] ++ R) (fun x => x ≤ 12) (fun x => 12 - x) (0) ?_ zsub zge ?_
          · exact Nat.zero_le _
          rintro s hI2 KL2 hL2
          have hs6 := hI2
          refine cseq ?_; intro K87 hK87
          refine cseq ?_; intro K88 hK88
          refine creg ?_
          refine ymv ?_
          refine ymv ?_
          refine y (ev_lss rfl rfl) rfl ?_
          refine ymv ?_
          refine ysplit 222 rfl (fun h476 => ?_) (fun h476 => ?_)
          ·(try simp only [sH] at h476)
           refine ygo ?_
           refine ymv ?_
           refine ygo ?_
           refine y (ev_lss rfl rfl) rfl ?_
           refine ypa ?_
           refine ynil' (kthn (hK88 _ _ ?_))
           clear hK88
           refine ccond rfl (fun h480 => ?_) (fun h480 => ?_)
           ·(try simp only [sH] at h480)
            refine cskip' (kthn (hK87 _ _ ?_))
            clear hK87
            refine cseq ?_; intro K89 hK89
            refine cblock ?_
            refine cseq ?_; intro K90 hK90
            refine creg ?_
            refine ymv ?_
            refine ymv ?_
            refine ycall (secReadU hS.r.ok) rfl Tryz.call26 ztk rfl ?_
            rintro v L' ⟨s231, rfl, ok231, rfl⟩
            refine ymv ?_
            refine yxt ?_
            refine yxt ?_
            refine yas ?_
            refine yas ?_
            refine ynil' (kthn (hK90 _ _ ?_))
            clear hK90
            refine cseq ?_; intro K91 hK91
            refine creg ?_
            refine ymv ?_
            refine ymv ?_
            refine ycall (rdReadU hS.r.rok (fun h => by rw [← hS.r.has] at h; obtain ⟨-, q0, q1⟩ := has_zero h; rw [← hS.r.sec q0 q1]; exact sec_length hS.r.ok _)) rfl Tryz.call27 ztk rfl ?_
            rintro v L' ⟨s237, rfl, ok237, rfl⟩
            rw [← hS.r.rdB, ← hS.r.has] at *
            have hb231 : RdB [svSeg s231 5 (bytesV (D.rdB s))] (svVal s231 (D.rdB s).length) (D.rdB s) := rdB_sv .z ok231
            have hb237 : RdB [svSeg s237 5 (bytesV (D.rdB s))] (svVal s237 (D.rdB s).length) (D.rdB s) := rdB_sv .z ok237
            generalize D.rdB s = bs at *
            refine ymv ?_
            refine yxt ?_
            refine yxt ?_
            refine yas ?_
            refine yas ?_
            refine ynil' (kthn (hK91 _ _ ?_))
            clear hK91
            refine cseq ?_; intro K92 hK92
            refine creg ?_
            skip
            ·skip
             refine ymv ?_
             refine y (ev_toStrB hb231 zge rfl Tryz.underlying50 Tryz.underlying9 Tryz.underlying5) rfl ?_
             refine ymv ?_
             refine y (ev_toStrB hb237 zge rfl Tryz.underlying50 Tryz.underlying9 Tryz.underlying5) rfl ?_
             first
               | refine y (ev_neqL rfl rfl) rfl ?_
               | refine y (ev_neqS rfl rfl) rfl ?_
             rw [show decide (bs ≠ bs) = false by simp]
             refine ymv ?_
             refine ygo ?_
             refine ymv ?_
             refine ygo ?_
             refine ymv ?_
             refine ygo ?_
             refine y (ev_neq rfl rfl) rfl ?_
             rw [show (!decide (D.has s = D.has s)) = false by simp]
             refine ypb ?_
             refine ynil' (kthn (hK92 _ _ ?_))
             clear hK92
             refine ccond0 rfl ?_
             refine cskip' (kbn (kthn (hK89 _ _ ?_)))
             clear hK89
             refine creg ?_
             refine ymv ?_
             refine y (ev_add rfl rfl) rfl ?_
             rw [show IntKind.i64.wrap ((s:Int) + 1) = ((s+1 : Nat) : Int) by rw [wr (by omega) (by omega)]; rfl]
             refine yas ?_
             refine ynil' (kthn ?_)
             exact hL2 (s + 1) (by first | omega | (dsimp only; omega)) (by omega) _ _ zsub zge
           ·(try simp only [sH] at h480)
            refine cexit (kthx (kthx (kbx (kbn (kthn (hK68 _ _ ?_))))))
            clear hK68
            refine creg ?_
            refine ymv ?_
            refine y (ev_add rfl rfl) rfl ?_
            rw [show IntKind.i64.wrap ((z:Int) + 1) = ((z+1 : Nat) : Int) by rw [wr (by omega) (by omega)]; rfl]
            refine yas ?_
            refine ynil' (kthn ?_)
            first | exact hL1 (z + 1, ⟨D, E, tt⟩) ⟨hS, by dsimp only; omega, by dsimp only; omega⟩ (by dsimp only; omega) _ _ zsub zge | exact hL1 (z + 1, ⟨D, E, none⟩) ⟨hS, by dsimp only; omega, by dsimp only; omega⟩ (by dsimp only; omega) _ _ zsub zge
          ·(try simp only [sH] at h476)
           refine ygz ?_
           refine ygz ?_
           refine ypb ?_
           refine ynil' (kthn (hK88 _ _ ?_))
           clear hK88
           refine ccond0 rfl ?_
           refine cexit (kthx (kthx (kbx (kbn (kthn (hK68 _ _ ?_))))))
           clear hK68
           refine creg ?_
           refine ymv ?_
           refine y (ev_add rfl rfl) rfl ?_
           rw [show IntKind.i64.wrap ((z:Int) + 1) = ((z+1 : Nat) : Int) by rw [wr (by omega) (by omega)]; rfl]
           refine yas ?_
           refine ynil' (kthn ?_)
           first | exact hL1 (z + 1, ⟨D, E, tt⟩) ⟨hS, by dsimp only; omega, by dsimp only; omega⟩ (by dsimp only; omega) _ _ zsub zge | exact hL1 (z + 1, ⟨D, E, none⟩) ⟨hS, by dsimp only; omega, by dsimp only; omega⟩ (by dsimp only; omega) _ _ zsub zge
        clear hK73
        refine cseq ?_; intro K93 hK93
        refine creg ?_
        refine y (ev_fieldAddr 0 rfl Tryz.underlying68 rfl Tryz.sizeOf3) rfl ?_
        refine y (ev_load rfl Tryz.isAgg3 zin rfl) rfl ?_
        refine ynil' (kthn (hK93 _ _ ?_))
        clear hK93
        refine cblock ?_
        refine cseq ?_; intro K94 hK94
        refine creg ?_
        refine y (ev_eql rfl rfl) rfl ?_
        refine yas ?_
        refine ynil' (kthn (hK94 _ _ ?_))
        clear hK94
        refine ccond rfl (fun h521 => ?_) (fun h521 => ?_)
        ·(try simp only [sH] at h521)
         refine cseq ?_; intro K95 hK95
         refine cseq ?_; intro K96 hK96
         refine creg ?_
         rcases t with _ | ⟨P, S⟩
         ·skip
          refine ymv ?_
          refine y (ev_eqlPnil rfl rfl Tryz.underlying61) rfl ?_
          refine ynil' (kthn (hK96 _ _ ?_))
          clear hK96
          refine ccond1 rfl ?_
          refine cexit (kthx (kbp rfl (kthx (kbx (kthn (hK68 _ _ ?_))))))
          clear hK68
          refine creg ?_
          refine ymv ?_
          refine y (ev_add rfl rfl) rfl ?_
          rw [show IntKind.i64.wrap ((z:Int) + 1) = ((z+1 : Nat) : Int) by rw [wr (by omega) (by omega)]; rfl]
          refine yas ?_
          refine ynil' (kthn ?_)
          first | exact hL1 (z + 1, ⟨D, E, tt⟩) ⟨hS, by dsimp only; omega, by dsimp only; omega⟩ (by dsimp only; omega) _ _ zsub zge | exact hL1 (z + 1, ⟨D, E, none⟩) ⟨hS, by dsimp only; omega, by dsimp only; omega⟩ (by dsimp only; omega) _ _ zsub zge
         ·skip
          refine ymv ?_
          refine y (ev_eqlPnil rfl rfl Tryz.underlying61) rfl ?_
          refine ynil' (kthn (hK96 _ _ ?_))
          clear hK96
          refine ccond0 rfl ?_
          refine cskip' (kthn (hK95 _ _ ?_))
          clear hK95
          refine cseq ?_; intro K97 hK97
          refine creg ?_
          refine ymv ?_
          refine y (ev_fieldAddr 2 rfl Tryz.underlying68 rfl Tryz.sizeOf37) rfl ?_
          refine y (ev_loadN (u := yy.m.cells) rfl Tryz.isAgg37 Tryz.sizeOf37 zin rfl rfl) rfl ?_
          refine ycall (bTake (m := yy.m) hS.l.1) rfl Tryz.call32 ztk rfl ?_
          rintro v L' ⟨rfl, rfl⟩
          refine ymv ?_
          refine yxt ?_
          refine yxt ?_
          refine ya (ac_alloc Tryz.zeroValue37 rfl) rfl ?_
          rintro v L' ⟨b19, rfl, rfl⟩
          refine ya0 (ac_storeN rfl rfl (msg_one _) Tryz.sizeOf37 zrp rfl (by simp [MsgM.cells]) rfl) ?_
          rintro v L' ⟨rfl, rfl⟩
          refine yas ?_
          refine ynil' (kthn (hK97 _ _ ?_))
          clear hK97
          refine cseq ?_; intro K98 hK98
          refine creg ?_
          refine ymv ?_
          refine y (ev_fieldAddr 2 rfl Tryz.underlying68 rfl Tryz.sizeOf37) rfl ?_
          refine y (ev_loadN (u := yy.m.cells) rfl Tryz.isAgg37 Tryz.sizeOf37 zin rfl rfl) rfl ?_
          refine ycall (xbTake (m := yy.m) hS.l.2 hS.r) rfl Tryz.call33 ztk rfl ?_
          rintro v L' ⟨rfl, rfl⟩
          obtain ⟨e1, e2, e3⟩ := StoM.takeR_rel hS.r S yy.m
          rw [← e1, ← e2]
          have hSn := BdM.ok.of (z := P) e3 ((StoM.take_l yy.m).trans hS.len) (StoM.take_ok hS.l.1 yy.m) (by rw [StoM.take_bs]; exact hS.l.2.wf.lp)
          have hbl := StoM.take_bs (S := S) (D := D) yy.m
          rw [← hbl]
          generalize S.take D yy.m = r at *
          refine ymv ?_
          refine yxt ?_
          refine yxt ?_
          refine ya (ac_alloc Tryz.zeroValue37 rfl) rfl ?_
          rintro v L' ⟨b21, rfl, rfl⟩
          refine ya0 (ac_storeN rfl rfl (msg_one _) Tryz.sizeOf37 zrp rfl (by simp [MsgM.cells]) rfl) ?_
          rintro v L' ⟨rfl, rfl⟩
          refine yas ?_
          refine ynil' (kthn (hK98 _ _ ?_))
          clear hK98
          refine cseq ?_; intro K99 hK99
          refine creg ?_
          skip
          ·skip
           refine y (ev_loadN (u := r.1.1.cells) rfl Tryz.isAgg37 Tryz.sizeOf37 zin rfl rfl) rfl ?_
           refine y (ev_loadN (u := r.1.1.cells) rfl Tryz.isAgg37 Tryz.sizeOf37 zin rfl rfl) rfl ?_
           refine y (ev_neqF (p := True) rfl rfl (by kernel_rfl) (by simp)) rfl ?_
           rw [show (!decide True) = false by simp]
           refine ymv ?_
           refine ygo ?_
           refine ymv ?_
           refine ygo ?_
           refine ymv ?_
           refine ygo ?_
           refine y (ev_neqB rfl rfl Tryz.underlying4) rfl ?_
           rw [show (!(r.1.2 == r.1.2)) = false by simp]
           refine ypb ?_
           refine ynil' (kthn (hK99 _ _ ?_))
           clear hK99
           refine ccond0 rfl ?_
           refine cskip' (kbn (kthn ?_))
           first | (have hSn1 := hSn; exact ksub zsub zge (hJr37 _ hSn1)) | exact ksub zsub zge (hJr37 _ hS)
        ·(try simp only [sH] at h521)
         refine cseq ?_; intro K100 hK100
         refine creg ?_
         refine y (ev_eql rfl rfl) rfl ?_
         refine yas ?_
         refine ynil' (kthn (hK100 _ _ ?_))
         clear hK100
         refine ccond rfl (fun h559 => ?_) (fun h559 => ?_)
         ·(try simp only [sH] at h559)
          refine cseq ?_; intro K101 hK101
          refine creg ?_
          refine ymv ?_
          refine y (ev_fieldAddr 16 rfl Tryz.underlying68 rfl Tryz.sizeOf38) rfl ?_
          refine y (ev_load rfl Tryz.isAgg38 zin rfl) rfl ?_
          refine ycall (secCrash (ks := yy.ks) ?ok563 ?ks563) rfl Tryz.call15 ztk rfl ?_
          case ok563 => first | exact hS.r.ok | exact hS.r.rok
          case ks563 => exact hact.keeps.mono zge
          rintro v L' ⟨rfl, rfl⟩
          refine ynil' (kthn (hK101 _ _ ?_))
          clear hK101
          refine cseq ?_; intro K102 hK102
          refine creg ?_
          refine ymv ?_
          refine y (ev_fieldAddr 16 rfl Tryz.underlying68 rfl Tryz.sizeOf38) rfl ?_
          refine y (ev_load rfl Tryz.isAgg38 zin rfl) rfl ?_
          refine ycall (xbKeeps (ks := yy.ks) ?ks567 ?six567) rfl Tryz.call34 ztk rfl ?_
          case ks567 => exact hact.keeps.mono zge
          case six567 => omega
          rintro v L' ⟨s127, rfl, ok127, rfl⟩
          refine ycall (rdCrash (ks := yy.ks) ?ok568 ?ks568) rfl Tryz.call16 ztk rfl ?_
          case ok568 => first | exact hS.r.ok | exact hS.r.rok
          case ks568 => exact rdV_sv zin ok127
          rintro v L' ⟨rfl, rfl⟩
          refine ynil' (kthn (hK102 _ _ ?_))
          clear hK102
          refine cseq ?_; intro K103 hK103
          refine creg ?_
          have hR1 := hS.r.crash yy.ks
          have hl1 : (D.crash yy.ks).l.length = n.toNat := by rw [← hS.len]; simp [Dev.crash, crashL_length]
          generalize D.crash yy.ks = D1 at *
          generalize E.crash yy.ks = E1 at *
          refine ymv ?_
          refine ymv ?_
          refine ymv ?_
          by_cases ho1 : stoE D1 f bl = 0
          ·skip
           first | (refine ycall (ubOpenOk hR1.ok ho1) rfl Tryz.call29 ztk rfl ?_; rintro v L' ⟨s52, t52, ps52, rfl, hp52, rfl⟩) | (refine ycall (ubOpenBad hR1.ok ho1) rfl Tryz.call29 ztk rfl ?_; rintro v L' ⟨rfl, rfl⟩)
           refine ymv ?_
           refine yxt ?_
           refine yxt ?_
           refine yas ?_
           refine yas ?_
           refine ynil' (kthn (hK103 _ _ ?_))
           clear hK103
           refine cseq ?_; intro K104 hK104
           refine creg ?_
           refine ymv ?_
           refine ymv ?_
           refine ymv ?_
           first | (refine ycall (vbOpenOk hR1 ho1) rfl Tryz.call30 ztk rfl ?_; rintro v L' ⟨s60, c60, b60, cap60, sp60, ps60, rfl, hp60, rfl⟩; have hSn := BdM.ok.of (z := ⟨s52, t52, ps52, s60, c60, b60, cap60, sp60, ps60⟩) hR1 hl1 (sto_any hR1.ok ho1 hp52) (by rw [openS_n]; exact hp60)) | (refine ycall (vbOpenBad hR1 ho1) rfl Tryz.call30 ztk rfl ?_; rintro v L' ⟨rfl, rfl⟩; have hSn := BdM.ok.none' hR1 hl1)
           refine ymv ?_
           refine yxt ?_
           refine yxt ?_
           refine yas ?_
           refine yas ?_
           refine ynil' (kthn (hK104 _ _ ?_))
           clear hK104
           refine cseq ?_; intro K105 hK105
           refine creg ?_
           refine ymv ?_
           refine ymv ?_
           refine y (ev_neq rfl rfl) rfl ?_
           try rw [show (!decide (stoE D1 f bl = stoE D1 f bl)) = false by simp]
           refine ymv ?_
           refine ygo ?_
           refine ymv ?_
           refine ygo ?_
           refine y (ev_eqlPnil rfl rfl Tryz.underlying61) rfl ?_
           refine ygo ?_
           refine ymv ?_
           refine ygo ?_
           refine y (ev_eqlPnil rfl rfl Tryz.underlying64) rfl ?_
           refine ygo ?_
           refine y (ev_neqB rfl rfl Tryz.underlying4) rfl ?_
           refine ypb ?_
           refine ynil' (kthn (hK105 _ _ ?_))
           clear hK105
           refine ccond0 rfl ?_
           refine cskip' (kbn (kthn ?_))
           first | (have hSn1 := hSn; exact ksub zsub zge (hJr37 _ hSn1)) | exact ksub zsub zge (hJr37 _ hS)
          ·skip
           first | (refine ycall (ubOpenOk hR1.ok ho1) rfl Tryz.call29 ztk rfl ?_; rintro v L' ⟨s52, t52, ps52, rfl, hp52, rfl⟩) | (refine ycall (ubOpenBad hR1.ok ho1) rfl Tryz.call29 ztk rfl ?_; rintro v L' ⟨rfl, rfl⟩)
           refine ymv ?_
           refine yxt ?_
           refine yxt ?_
           refine yas ?_
           refine yas ?_
           refine ynil' (kthn (hK103 _ _ ?_))
           clear hK103
           refine cseq ?_; intro K106 hK106
           refine creg ?_
           refine ymv ?_
           refine ymv ?_
           refine ymv ?_
           first | (refine ycall (vbOpenOk hR1 ho1) rfl Tryz.call30 ztk rfl ?_; rintro v L' ⟨s60, c60, b60, cap60, sp60, ps60, rfl, hp60, rfl⟩; have hSn := BdM.ok.of (z := ⟨s52, t52, ps52, s60, c60, b60, cap60, sp60, ps60⟩) hR1 hl1 (sto_any hR1.ok ho1 hp52) (by rw [openS_n]; exact hp60)) | (refine ycall (vbOpenBad hR1 ho1) rfl Tryz.call30 ztk rfl ?_; rintro v L' ⟨rfl, rfl⟩; have hSn := BdM.ok.none' hR1 hl1)
           refine ymv ?_
           refine yxt ?_
           refine yxt ?_
           refine yas ?_
           refine yas ?_
           refine ynil' (kthn (hK106 _ _ ?_))
           clear hK106
           refine cseq ?_; intro K107 hK107
           refine creg ?_
           refine ymv ?_
           refine ymv ?_
           refine y (ev_neq rfl rfl) rfl ?_
           try rw [show (!decide (stoE D1 f bl = stoE D1 f bl)) = false by simp]
           refine ymv ?_
           refine ygo ?_
           refine ymv ?_
           refine ygo ?_
           refine y (ev_eqlPnil rfl rfl Tryz.underlying61) rfl ?_
           refine ygo ?_
           refine ymv ?_
           refine ygo ?_
           refine y (ev_eqlPnil rfl rfl Tryz.underlying64) rfl ?_
           refine ygo ?_
           refine y (ev_neqB rfl rfl Tryz.underlying4) rfl ?_
           refine ypb ?_
           refine ynil' (kthn (hK107 _ _ ?_))
           clear hK107
           refine ccond0 rfl ?_
           refine cskip' (kbn (kthn ?_))
           first | (have hSn1 := hSn; exact ksub zsub zge (hJr37 _ hSn1)) | exact ksub zsub zge (hJr37 _ hS)
         ·(try simp only [sH] at h559)
          refine cseq ?_; intro K108 hK108
          refine creg ?_
          refine y (ev_eql rfl rfl) rfl ?_
          refine yas ?_
          refine ynil' (kthn (hK108 _ _ ?_))
          clear hK108
          refine ccond rfl (fun h624 => ?_) (fun h624 => ?_)
          ·(try simp only [sH] at h624)
           refine cseq ?_; intro K109 hK109
           refine creg ?_
           refine ymv ?_
           refine y (ev_fieldAddr 1 rfl Tryz.underlying68 rfl Tryz.sizeOf3) rfl ?_
           refine y (ev_load rfl Tryz.isAgg3 zin rfl) rfl ?_
           refine ycall (secFuse) rfl Tryz.call18 ztk rfl ?_
           rintro v L' ⟨rfl, rfl⟩
           refine ynil' (kthn (hK109 _ _ ?_))
           clear hK109
           refine creg ?_
           refine ymv ?_
           refine y (ev_fieldAddr 1 rfl Tryz.underlying68 rfl Tryz.sizeOf3) rfl ?_
           refine y (ev_load rfl Tryz.isAgg3 zin rfl) rfl ?_
           refine ycall (rdFuse) rfl Tryz.call19 ztk rfl ?_
           rintro v L' ⟨rfl, rfl⟩
           have hSn := hS.dev (hS.r.setFuse hact.n.2) (show (D.setFuse yy.n).l.length = n.toNat from hS.len)
           refine ynil' (kbn (kthn ?_))
           first | (have hSn1 := hSn; exact ksub zsub zge (hJr37 _ hSn1)) | exact ksub zsub zge (hJr37 _ hS)
          ·(try simp only [sH] at h624)
           refine cseq ?_; intro K110 hK110
           refine creg ?_
           refine y (ev_eql rfl rfl) rfl ?_
           refine yas ?_
           refine ynil' (kthn (hK110 _ _ ?_))
           clear hK110
           refine ccond rfl (fun h635 => ?_) (fun h635 => ?_)
           ·(try simp only [sH] at h635)
            refine cseq ?_; intro K111 hK111
            refine creg ?_
            refine ymv ?_
            refine y (ev_fieldAddr 1 rfl Tryz.underlying68 rfl Tryz.sizeOf3) rfl ?_
            refine y (ev_load rfl Tryz.isAgg3 zin rfl) rfl ?_
            refine y (ev_fieldAddr 15 rfl Tryz.underlying68 rfl Tryz.sizeOf9) rfl ?_
            refine y (ev_load rfl Tryz.isAgg9 zin rfl) rfl ?_
            refine ya (ac_toBytesY rfl Tryz.underlying9 Tryz.underlying50 Tryz.underlying5) rfl ?_
            rintro v L' ⟨b192, c192, sp192, fr192, rfl, hc192, rfl⟩
            refine ycall (secWrite (bs := yy.s) ?ok642 ?rd642) rfl Tryz.call20 ztk rfl ?_
            case ok642 => first | exact hS.r.ok | exact hS.r.rok
            case rd642 => exact rdB_in zin rfl (by simp)
            rintro v L' ⟨rfl, rfl⟩
            refine ynil' (kthn (hK111 _ _ ?_))
            clear hK111
            refine creg ?_
            refine ymv ?_
            refine y (ev_fieldAddr 1 rfl Tryz.underlying68 rfl Tryz.sizeOf3) rfl ?_
            refine y (ev_load rfl Tryz.isAgg3 zin rfl) rfl ?_
            refine y (ev_fieldAddr 15 rfl Tryz.underlying68 rfl Tryz.sizeOf9) rfl ?_
            refine y (ev_load rfl Tryz.isAgg9 zin rfl) rfl ?_
            refine ya (ac_toBytesY rfl Tryz.underlying9 Tryz.underlying50 Tryz.underlying5) rfl ?_
            rintro v L' ⟨b199, c199, sp199, fr199, rfl, hc199, rfl⟩
            refine ycall (rdWrite (bs := yy.s) ?ok649 ?rd649) rfl Tryz.call21 ztk rfl ?_
            case ok649 => first | exact hS.r.ok | exact hS.r.rok
            case rd649 => exact rdB_in zin rfl (by simp)
            rintro v L' ⟨rfl, rfl⟩
            obtain ⟨e1, e2⟩ := hS.r.write yy.n yy.s
            have hSn := hS.dev e2 (show (D.write yy.n yy.s).2.l.length = n.toNat by rw [write_l]; exact hS.len)
            refine ynil' (kbn (kthn ?_))
            first | (have hSn1 := hSn; exact ksub zsub zge (hJr37 _ hSn1)) | exact ksub zsub zge (hJr37 _ hS)
           ·(try simp only [sH] at h635)
            have hSn := hS
            refine cskip' (kbn (kthn ?_))
            first | (have hSn1 := hSn; exact ksub zsub zge (hJr37 _ hSn1)) | exact ksub zsub zge (hJr37 _ hS)
      ·(try simp only [sH] at h366)
       refine cexit (kthx (kthx (kbx (kthn ?_))))
       exact ksub zsub zge (hJ1 ⟨z, D, E, t⟩ ⟨hI1o, by first | trivial | omega⟩)
     ·(try simp only [sH] at h362)
      refine ygz ?_
      refine ygz ?_
      refine ypb ?_
      refine ynil' (kthn (hK67 _ _ ?_))
      clear hK67
      refine ccond0 rfl ?_
      refine cexit (kthx (kthx (kbx (kthn ?_))))
      exact ksub zsub zge (hJ1 ⟨z, D, E, t⟩ ⟨hI1o, by first | trivial | omega⟩)
    clear hK62
    refine cseq ?_; intro K112 hK112
    refine creg ?_
    refine ymv ?_
    refine ymv ?_
    refine y (ev_neq rfl rfl) rfl ?_
    try rw [show (!decide (stoE D0 f bl = stoE D0 f bl)) = false by simp]
    refine ymv ?_
    refine ygo ?_
    refine ymv ?_
    refine ygo ?_
    refine y (ev_eqlPnil rfl rfl Tryz.underlying61) rfl ?_
    refine ygo ?_
    refine ymv ?_
    refine ygo ?_
    refine y (ev_eqlPnil rfl rfl Tryz.underlying64) rfl ?_
    refine ygo ?_
    refine y (ev_neqB rfl rfl Tryz.underlying4) rfl ?_
    refine ypb ?_
    refine ynil' (kthn (hK112 _ _ ?_))
    clear hK112
    refine ccond0 rfl ?_
    refine cskip' (kthn ?_)
    exact ksub zsub zge (hJr11 t0 hS0)
  ·skip
   first | (refine ycall (secNewZ hn) rfl Tryz.call6 ztk rfl ?_; rintro v L' ⟨q32, rfl, rfl⟩) | (refine ycall (secNewNil (by omega)) rfl Tryz.call6 ztk rfl ?_; rintro v L' ⟨rfl, rfl⟩)
   refine yas ?_
   refine ynil' (kthn (hK4 _ _ ?_))
   clear hK4
   refine cseq ?_; intro K113 hK113
   refine creg ?_
   refine ymv ?_
   first | (refine ycall (rdNewZ hn) rfl Tryz.call7 ztk rfl ?_; rintro v L' ⟨p34, la34, rfl, rfl⟩) | (refine ycall (refNewNil (by omega)) rfl Tryz.call7 ztk rfl ?_; rintro v L' ⟨rfl, rfl⟩)
   refine yas ?_
   refine ynil' (kthn (hK113 _ _ ?_))
   clear hK113
   refine cseq ?_; intro K114 hK114
   refine cseq ?_; intro K115 hK115
   refine creg ?_
   refine ymv ?_
   refine y (ev_eqlPnil rfl rfl Tryz.underlying24) rfl ?_
   refine ymv ?_
   refine ygz ?_
   refine ygz ?_
   refine ypa ?_
   refine ynil' (kthn (hK115 _ _ ?_))
   clear hK115
   refine ccond1 rfl ?_
   refine cseq ?_; intro K116 hK116
   refine creg ?_
   refine ymv ?_
   refine y (ev_eqlPnil rfl rfl Tryz.underlying24) rfl ?_
   refine ymv ?_
   refine ygo ?_
   refine ymv ?_
   refine ygo ?_
   refine y (ev_eqlPnil rfl rfl Tryz.underlying26) rfl ?_
   refine ypa ?_
   refine yas ?_
   refine ynil' (kthn (hK116 _ _ ?_))
   clear hK116
   refine cret (kthr ?_)
   first
     | (exfalso; omega; done)
     | (refine kretv Tryz.results4 rfl (L1 := R) zge ?_
        exact ⟨_, ⟨by first | rfl | (exfalso; simp_all; done), rfl⟩, by first | rfl | (exfalso; simp_all; done)⟩)
end W
end Go.Proofs
