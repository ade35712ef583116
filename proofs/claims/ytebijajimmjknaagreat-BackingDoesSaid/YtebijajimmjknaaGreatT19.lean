/- A part of the proof: contracts and plain lemmas, each without conditions beyond those that it names. -/
import Derived.Test.YtebijajimmjknaaGreatT18
import Derived.Test.YtebijajimmjknaaGreatGE
set_option linter.unusedVariables false
set_option linter.unusedSimpArgs false
set_option linter.constructorNameAsVariable false
namespace Go.Proofs
open Go Go.Sl
namespace W
set_option linter.unusedVariables false
theorem rDecode [Env] {R : List Seg} {v : Value} {bs : Bytes} (hb : RdY R v bs) (hl : bs.length ≤ 100000) :
   Con Tryz.prog 45 [v] [] R (fun u L' => ∃ sn st, u = .tuple #[recV (decM bs).1 sn st, i64 (decM bs).2] ∧ RecOk (decM bs).1 sn st ∧ L' = recSegs (decM bs).1 sn st) := by
 have hv := hb.rd
 refine con_enter Tryz.func45 Tryz.ntmps45 rfl rfl ?_
 refine cseq ?_; intro K1 hK1
 refine creg ?_
 refine ya (ac_alloc Tryz.zeroValue100 rfl) rfl ?_
 rintro v L' ⟨b2, rfl, rfl⟩
 refine yas ?_
 refine ynil' (kthn (hK1 _ _ ?_))
 clear hK1
 refine cseq ?_; intro K2 hK2
 refine creg ?_
 refine y (ev_build (zs := _) rfl Tryz.underlying100 Tryz.zeroValue100 rfl (.cons Tryz.sizeOf3 (.cons Tryz.sizeOf53 (.cons Tryz.sizeOf98 .nil))) trivial (by dsimp [fillL, splice, vcells] <;> rfl)) rfl ?_
 refine ya (ac_alloc Tryz.zeroValue100 rfl) rfl ?_
 rintro v L' ⟨b4, rfl, rfl⟩
 refine ya0 (ac_storeAll rfl rfl (by first | exact bytesV_one _ | (simp [Value.oneCell']; done) | (simp only [List.forall_mem_cons, List.not_mem_nil, false_implies, implies_true, svVal_one, and_true, true_and, and_self]; first | done | simp [Value.oneCell'])) Tryz.sizeOf100 zrp (by first | rfl | assumption | (simp [*]; done) | (simp [*]; omega)) (by first | rfl | assumption | (simp [*]; done) | (simp [*]; omega))) ?_
 rintro v L' ⟨rfl, rfl⟩
 refine ynil' (kthn (hK2 _ _ ?_))
 clear hK2
 refine cseq ?_; intro K3 hK3
 refine cseq ?_; intro K4 hK4
 refine creg ?_
 refine ymv ?_
 first
   | refine y (ev_len rfl Tryz.underlying50) rfl ?_
   | refine y (ev_lenSv rfl Tryz.underlying50 (by assumption)) rfl ?_
   | refine y (ev_lenV rfl Tryz.underlying50 (RdV.lenVal (by assumption))) rfl ?_
   | refine y (ev_lenV rfl Tryz.underlying50 (RdB.lenVal (by assumption))) rfl ?_
 refine y (ev_lss rfl rfl) rfl ?_
 refine ynil' (kthn (hK4 _ _ ?_))
 clear hK4
 refine ccond rfl (fun h9 => ?_) (fun h9 => ?_)
 ·(try simp only [sH] at h9)
  refine cseq ?_; intro K5 hK5
  refine creg ?_
  have hdm := decM_none (recD_short (b := bs) (by omega))
  refine y (ev_loadAll rfl Tryz.isAgg100 Tryz.sizeOf100 zin (by first | rfl | assumption | (simp [*]; done) | (simp [*]; omega))) rfl ?_
  refine ya0 (ac_storeAll rfl rfl (by first | exact bytesV_one _ | (simp [Value.oneCell']; done) | (simp only [List.forall_mem_cons, List.not_mem_nil, false_implies, implies_true, svVal_one, and_true, true_and, and_self]; first | done | simp [Value.oneCell'])) Tryz.sizeOf100 zrp (by first | rfl | assumption | (simp [*]; done) | (simp [*]; omega)) (by first | rfl | assumption | (simp [*]; done) | (simp [*]; omega))) ?_
  rintro v L' ⟨rfl, rfl⟩
  refine yas ?_
  refine ynil' (kthn (hK5 _ _ ?_))
  clear hK5
  refine cret (kthr ?_)
  first
    | (exfalso; omega; done)
    | (refine kretct Tryz.results45 rfl rfl Tryz.isAgg100 Tryz.sizeOf100 zin (rfl) (L1 := [[], []] ++ R) zge ?_
       rw [hdm]; exact ⟨_, ⟨none, none, rfl, ⟨⟨rfl, rfl⟩, ⟨rfl, rfl⟩⟩, rfl⟩, rfl⟩)
 ·(try simp only [sH] at h9)
  refine cskip' (kthn (hK3 _ _ ?_))
  clear hK3
  refine cseq ?_; intro K6 hK6
  refine creg ?_
  obtain ⟨k0, h0, r, rfl⟩ : ∃ k h r, bs = k :: h :: r := by match bs, (show 2 ≤ bs.length by omega) with | k :: h :: r, _ => exact ⟨k, h, r, rfl⟩
  have hkl := k0.toNat_lt
  have hhl := h0.toNat_lt
  have hlr : (k0 :: h0 :: r).length = r.length + 2 := rfl
  have hdr2 : (k0 :: h0 :: r).drop 2 = r := rfl
  refine ymv ?_
  refine y (ev_ixV hv rfl rfl Tryz.underlying50 Tryz.sizeOf5 (by omega) (by omega)) rfl ?_
  refine y (ev_loadV 1 hv zge rfl Tryz.isAgg5 rfl rfl) rfl ?_
  refine y (ev_conv rfl Tryz.underlying5 Tryz.underlying3) rfl ?_
  rw [wr (by omega) (by omega)]
  refine y (ev_rem rfl rfl (by decide)) rfl ?_
  rw [show ((h0.toNat : Nat) : Int).tmod 16 = ((h0.toNat % 16 : Nat) : Int) from rfl]
  refine yas ?_
  refine ynil' (kthn (hK6 _ _ ?_))
  clear hK6
  refine cseq ?_; intro K7 hK7
  refine creg ?_
  refine ymv ?_
  refine y (ev_ixV hv rfl rfl Tryz.underlying50 Tryz.sizeOf5 (by omega) (by omega)) rfl ?_
  refine y (ev_loadV 1 hv zge rfl Tryz.isAgg5 rfl rfl) rfl ?_
  refine y (ev_conv rfl Tryz.underlying5 Tryz.underlying3) rfl ?_
  rw [wr (by omega) (by omega)]
  refine y (ev_quo rfl rfl (by decide)) rfl ?_
  rw [show ((h0.toNat : Nat) : Int).tdiv 16 = ((h0.toNat / 16 : Nat) : Int) from rfl, wr (by omega) (by omega)]
  refine yas ?_
  refine ynil' (kthn (hK7 _ _ ?_))
  clear hK7
  refine cseq ?_; intro K8 hK8
  have hJr9 : ∀ x : Nat × Nat, (x.1 = headN h0.toNat ∧ x.2 = headT h0.toNat) → Sk 129 K8 ([(6, i64 x.2), (5, i64 x.1), (4, ptr b4), (2, ptr b2), (0, v)]) ([sc b4 [i64 0, nilS, nilS] 100, sc b2 [i64 0, nilS, nilS] 100] ++ R) := by
   rintro ⟨nm, tx⟩ hIr9
   refine hK8 _ _ ?_
   obtain ⟨hnm, htx⟩ := hIr9; dsimp only at hnm htx ⊢; have hn16 := headN_le h0; rw [← hnm] at hn16
   refine cseq ?_; intro K9 hK9
   refine cseq ?_; intro K10 hK10
   refine creg ?_
   refine ymv ?_
   refine y (ev_gtr rfl rfl) rfl ?_
   refine ynil' (kthn (hK10 _ _ ?_))
   clear hK10
   refine ccond rfl (fun h27 => ?_) (fun h27 => ?_)
   ·(try simp only [sH] at h27)
    refine cseq ?_; intro K11 hK11
    refine creg ?_
    have hdm := decM_none (recD_many (k := k0) (h := h0) (r := r) (by omega))
    refine y (ev_loadAll rfl Tryz.isAgg100 Tryz.sizeOf100 zin (by first | rfl | assumption | (simp [*]; done) | (simp [*]; omega))) rfl ?_
    refine ya0 (ac_storeAll rfl rfl (by first | exact bytesV_one _ | (simp [Value.oneCell']; done) | (simp only [List.forall_mem_cons, List.not_mem_nil, false_implies, implies_true, svVal_one, and_true, true_and, and_self]; first | done | simp [Value.oneCell'])) Tryz.sizeOf100 zrp (by first | rfl | assumption | (simp [*]; done) | (simp [*]; omega)) (by first | rfl | assumption | (simp [*]; done) | (simp [*]; omega))) ?_
    rintro v L' ⟨rfl, rfl⟩
    refine yas ?_
    refine ynil' (kthn (hK11 _ _ ?_))
    clear hK11
    refine cret (kthr ?_)
    first
      | (exfalso; omega; done)
      | (refine kretct Tryz.results45 rfl rfl Tryz.isAgg100 Tryz.sizeOf100 zin (rfl) (L1 := [[], []] ++ R) zge ?_
         rw [hdm]; exact ⟨_, ⟨none, none, rfl, ⟨⟨rfl, rfl⟩, ⟨rfl, rfl⟩⟩, rfl⟩, rfl⟩)
   ·(try simp only [sH] at h27)
    have ht4 : ¬ 4 < headT h0.toNat := by omega
    refine cskip' (kthn (hK9 _ _ ?_))
    clear hK9
    refine cseq ?_; intro K12 hK12
    refine creg ?_
    refine ymv ?_
    refine y (ev_ixV hv rfl rfl Tryz.underlying50 Tryz.sizeOf5 (by omega) (by omega)) rfl ?_
    refine y (ev_loadV 0 hv zge rfl Tryz.isAgg5 rfl rfl) rfl ?_
    refine y (ev_conv rfl Tryz.underlying5 Tryz.underlying3) rfl ?_
    rw [wr (by omega) (by omega)]
    refine y (ev_build (zs := _) rfl Tryz.underlying100 Tryz.zeroValue100 rfl (.cons Tryz.sizeOf3 (.cons Tryz.sizeOf53 (.cons Tryz.sizeOf98 .nil))) ⟨⟨_, _, rfl, (by first | rfl | simp), (by first | decide | simp)⟩, trivial⟩ (by dsimp [fillL, splice, vcells] <;> rfl)) rfl ?_
    refine ya (ac_alloc Tryz.zeroValue100 rfl) rfl ?_
    rintro v L' ⟨b7, rfl, rfl⟩
    refine ya0 (ac_storeAll rfl rfl (by first | exact bytesV_one _ | (simp [Value.oneCell']; done) | (simp only [List.forall_mem_cons, List.not_mem_nil, false_implies, implies_true, svVal_one, and_true, true_and, and_self]; first | done | simp [Value.oneCell'])) Tryz.sizeOf100 zrp (by first | rfl | assumption | (simp [*]; done) | (simp [*]; omega)) (by first | rfl | assumption | (simp [*]; done) | (simp [*]; omega))) ?_
    rintro v L' ⟨rfl, rfl⟩
    refine ynil' (kthn (hK12 _ _ ?_))
    clear hK12
    refine cseq ?_; intro K13 hK13
    refine creg ?_
    refine yas ?_
    refine ynil' (kthn (hK13 _ _ ?_))
    clear hK13
    refine cseq ?_; intro K14 hK14
    refine cseq ?_; intro K15 hK15
    refine creg ?_
    refine yas ?_
    refine ynil' (kthn (hK15 _ _ ?_))
    clear hK15
    have hJ1 : ∀ x : Nat × Sv × List Int × Nat, ((svOk x.2.1 x.1 1 (intsV x.2.2.1) ∧ NumsI r nm x.1 x.2.2.1 ((k0 :: h0 :: r).drop x.2.2.2) ∧ x.2.2.2 ≤ (k0 :: h0 :: r).length) ∧ (x.1 = nm)) → Sk 129 K14 ([(9, i64 x.1), (8, i64 x.2.2.2), (7, ptr b7), (6, i64 tx), (5, i64 nm), (4, ptr b4), (2, ptr b2), (0, v)]) ([recP b7 k0.toNat x.2.1 x.1 none 0, svSeg x.2.1 2 (intsV x.2.2.1), sc b4 [i64 0, nilS, nilS] 100, sc b2 [i64 0, nilS, nilS] 100] ++ R) := by
     rintro ⟨k, sn, ns, p⟩ ⟨hI1, hX1⟩
     refine hK14 _ _ ?_
     obtain ⟨okn, hni, hp⟩ := hI1; dsimp only at okn hni hp ⊢; have hkn := hni.le; unfold recP
     dsimp only at hX1; subst hX1; have hnd := hni.done; rw [hnm] at hnd
     refine cseq ?_; intro K16 hK16
     refine cseq ?_; intro K17 hK17
     refine creg ?_
     refine yas ?_
     refine ynil' (kthn (hK17 _ _ ?_))
     clear hK17
     have hJ2 : ∀ x : Nat × Sv × List Bytes × Nat, ((svOk x.2.1 x.1 1 (strsV x.2.2.1) ∧ TextsI ((k0 :: h0 :: r).drop p) tx x.1 x.2.2.1 ((k0 :: h0 :: r).drop x.2.2.2) ∧ x.2.2.2 ≤ (k0 :: h0 :: r).length) ∧ (x.1 = tx)) → Sk 129 K16 ([(13, i64 x.1), (8, i64 x.2.2.2), (7, ptr b7), (6, i64 tx), (4, ptr b4), (2, ptr b2), (0, v)]) ([recP b7 k0.toNat sn k x.2.1 x.1, svSeg x.2.1 9 (strsV x.2.2.1), svSeg sn 2 (intsV ns), sc b4 [i64 0, nilS, nilS] 100, sc b2 [i64 0, nilS, nilS] 100] ++ R) := by
      rintro ⟨z, st, ts, g⟩ ⟨hI2, hX2⟩
      refine hK16 _ _ ?_
      obtain ⟨okt, hti, hg⟩ := hI2; dsimp only at okt hti hg ⊢; have hkt := hti.le; unfold recP
      dsimp only at hX2; subst hX2; have htd := hti.done; rw [htx] at htd
      refine cseq ?_; intro K18 hK18
      refine cseq ?_; intro K19 hK19
      refine creg ?_
      refine ymv ?_
      refine ymv ?_
      first
        | refine y (ev_len rfl Tryz.underlying50) rfl ?_
        | refine y (ev_lenSv rfl Tryz.underlying50 (by assumption)) rfl ?_
        | refine y (ev_lenV rfl Tryz.underlying50 (RdV.lenVal (by assumption))) rfl ?_
        | refine y (ev_lenV rfl Tryz.underlying50 (RdB.lenVal (by assumption))) rfl ?_
      refine y (ev_lss rfl rfl) rfl ?_
      refine ynil' (kthn (hK19 _ _ ?_))
      clear hK19
      refine ccond rfl (fun h45 => ?_) (fun h45 => ?_)
      ·(try simp only [sH] at h45)
       refine cseq ?_; intro K20 hK20
       refine creg ?_
       have hdm := decM_none (recD_more (k := k0) (h := h0) (r := r) ht4 hnd htd (by intro e; have := congrArg List.length e; simp only [List.length_drop, List.length_nil] at this; omega))
       refine y (ev_loadAll rfl Tryz.isAgg100 Tryz.sizeOf100 zin (by first | rfl | assumption | (simp [*]; done) | (simp [*]; omega))) rfl ?_
       refine ya0 (ac_storeAll rfl rfl (by first | exact bytesV_one _ | (simp [Value.oneCell']; done) | (simp only [List.forall_mem_cons, List.not_mem_nil, false_implies, implies_true, svVal_one, and_true, true_and, and_self]; first | done | simp [Value.oneCell'])) Tryz.sizeOf100 zrp (by first | rfl | assumption | (simp [*]; done) | (simp [*]; omega)) (by first | rfl | assumption | (simp [*]; done) | (simp [*]; omega))) ?_
       rintro v L' ⟨rfl, rfl⟩
       refine yas ?_
       refine ynil' (kthn (hK20 _ _ ?_))
       clear hK20
       refine cret (kthr ?_)
       first
         | (exfalso; omega; done)
         | (refine kretct Tryz.results45 rfl rfl Tryz.isAgg100 Tryz.sizeOf100 zin (rfl) (L1 := [[], []] ++ R) zge ?_
            rw [hdm]; exact ⟨_, ⟨none, none, rfl, ⟨⟨rfl, rfl⟩, ⟨rfl, rfl⟩⟩, rfl⟩, rfl⟩)
      ·(try simp only [sH] at h45)
       refine cskip' (kthn (hK18 _ _ ?_))
       clear hK18
       refine cseq ?_; intro K21 hK21
       refine creg ?_
       have hge : (k0 :: h0 :: r).drop g = [] := List.drop_eq_nil_of_le (by omega)
       rw [hge] at htd
       have hds := decM_some (recD_some (k := k0) ht4 hnd htd)
       refine y (ev_loadAll rfl Tryz.isAgg100 Tryz.sizeOf100 zin (by first | rfl | assumption | (simp [*]; done) | (simp [*]; omega))) rfl ?_
       refine ya0 (ac_storeAll rfl rfl (by first | exact bytesV_one _ | (simp [Value.oneCell']; done) | (simp only [List.forall_mem_cons, List.not_mem_nil, false_implies, implies_true, svVal_one, and_true, true_and, and_self]; first | done | simp [Value.oneCell'])) Tryz.sizeOf100 zrp (by first | rfl | assumption | (simp [*]; done) | (simp [*]; omega)) (by first | rfl | assumption | (simp [*]; done) | (simp [*]; omega))) ?_
       rintro v L' ⟨rfl, rfl⟩
       refine yas ?_
       refine ynil' (kthn (hK21 _ _ ?_))
       clear hK21
       refine cret ?_
       first
         | (exfalso; omega; done)
         | (refine kretct Tryz.results45 rfl rfl Tryz.isAgg100 Tryz.sizeOf100 zin (rfl) (L1 := [svSeg sn 2 (intsV ns), svSeg st 9 (strsV ts)] ++ R) zge ?_
            rw [hds]; exact ⟨_, ⟨sn, st, by unfold recV; rw [hni.len, hti.len], ⟨by rw [hni.len]; exact okn, by rw [hti.len]; exact okt⟩, rfl⟩, rfl⟩)
     clear hK16
     refine cblock ?_
     refine cloop (A := Nat × Sv × List Bytes × Nat) (fun x => [(13, i64 x.1), (8, i64 x.2.2.2), (7, ptr b7), (6, i64 tx), (4, ptr b4), (2, ptr b2), (0, v)]) (fun x => [recP b7 k0.toNat sn k x.2.1 x.1, svSeg x.2.1 9 (strsV x.2.2.1), svSeg sn 2 (intsV ns), sc b4 [i64 0, nilS, nilS] 100, sc b2 [i64 0, nilS, nilS] 100] ++ R) (fun x => svOk x.2.1 x.1 1 (strsV x.2.2.1) ∧ TextsI ((k0 :: h0 :: r).drop p) tx x.1 x.2.2.1 ((k0 :: h0 :: r).drop x.2.2.2) ∧ x.2.2.2 ≤ (k0 :: h0 :: r).length) (fun x => tx - x.1) ((0, none, [], p)) ?_ zsub zge ?_
     · exact ⟨⟨rfl, rfl⟩, .zero _ tx, hp⟩
     rintro ⟨z, st, ts, g⟩ hI2 KL2 hL2
     have hI2o := hI2
     obtain ⟨okt, hti, hg⟩ := hI2; dsimp only at okt hti hg ⊢; have hkt := hti.le; unfold recP
     refine cseq ?_; intro K22 hK22
     refine cseq ?_; intro K23 hK23
     refine creg ?_
     refine ymv ?_
     refine ymv ?_
     refine y (ev_lss rfl rfl) rfl ?_
     refine ynil' (kthn (hK23 _ _ ?_))
     clear hK23
     refine ccond rfl (fun h55 => ?_) (fun h55 => ?_)
     ·(try simp only [sH] at h55)
      refine cskip' (kthn (hK22 _ _ ?_))
      clear hK22
      refine cseq ?_; intro K24 hK24
      refine cblock ?_
      refine cseq ?_; intro K25 hK25
      refine cseq ?_; intro K26 hK26
      refine creg ?_
      refine ymv ?_
      refine ymv ?_
      first
        | refine y (ev_len rfl Tryz.underlying50) rfl ?_
        | refine y (ev_lenSv rfl Tryz.underlying50 (by assumption)) rfl ?_
        | refine y (ev_lenV rfl Tryz.underlying50 (RdV.lenVal (by assumption))) rfl ?_
        | refine y (ev_lenV rfl Tryz.underlying50 (RdB.lenVal (by assumption))) rfl ?_
      refine y (ev_geq rfl rfl) rfl ?_
      refine ymv ?_
      refine ysplit 78 rfl (fun h61 => ?_) (fun h61 => ?_)
      ·(try simp only [sH] at h61)
       refine ygz ?_
       refine ygz ?_
       refine ygz ?_
       refine ygz ?_
       refine ygz ?_
       refine ygz ?_
       refine ypa ?_
       refine ymv ?_
       refine ygz ?_
       refine ygz ?_
       refine ygz ?_
       refine ygz ?_
       refine ygz ?_
       refine ygz ?_
       refine ygz ?_
       refine ygz ?_
       refine ygz ?_
       refine ygz ?_
       refine ygz ?_
       refine ypa ?_
       refine ynil' (kthn (hK26 _ _ ?_))
       clear hK26
       refine ccond1 rfl ?_
       refine cseq ?_; intro K27 hK27
       refine creg ?_
       have hdm := decM_none (recD_texts (k := k0) (h := h0) (r := r) ht4 hnd (by rw [← htx]; first | (rw [hdc] at hti; exact hti.bad (by omega) (by omega)) | (rw [List.drop_eq_nil_of_le (show (k0 :: h0 :: r).length ≤ g by omega)] at hti; exact hti.bad0 (by omega))))
       refine y (ev_loadAll rfl Tryz.isAgg100 Tryz.sizeOf100 zin (by first | rfl | assumption | (simp [*]; done) | (simp [*]; omega))) rfl ?_
       refine ya0 (ac_storeAll rfl rfl (by first | exact bytesV_one _ | (simp [Value.oneCell']; done) | (simp only [List.forall_mem_cons, List.not_mem_nil, false_implies, implies_true, svVal_one, and_true, true_and, and_self]; first | done | simp [Value.oneCell'])) Tryz.sizeOf100 zrp (by first | rfl | assumption | (simp [*]; done) | (simp [*]; omega)) (by first | rfl | assumption | (simp [*]; done) | (simp [*]; omega))) ?_
       rintro v L' ⟨rfl, rfl⟩
       refine yas ?_
       refine ynil' (kthn (hK27 _ _ ?_))
       clear hK27
       refine cret (kthr (kbr (kthr (kthr (kbr (kthr ?_))))))
       first
         | (exfalso; omega; done)
         | (refine kretct Tryz.results45 rfl rfl Tryz.isAgg100 Tryz.sizeOf100 zin (rfl) (L1 := [[], []] ++ R) zge ?_
            rw [hdm]; exact ⟨_, ⟨none, none, rfl, ⟨⟨rfl, rfl⟩, ⟨rfl, rfl⟩⟩, rfl⟩, rfl⟩)
      ·(try simp only [sH] at h61)
       have hdc := drop_cons (bs := k0 :: h0 :: r) (k := g) (by omega)
       obtain ⟨x, hx⟩ : ∃ x : UInt8, (k0 :: h0 :: r)[g]?.getD 0 = x := ⟨_, rfl⟩
       rw [hx] at hdc
       have hxl := x.toNat_lt
       have hdl : ((k0 :: h0 :: r).drop (g + 1)).length = (k0 :: h0 :: r).length - (g + 1) := List.length_drop
       refine ygo ?_
       refine ymv ?_
       refine ygo ?_
       refine ymv ?_
       refine ygo ?_
       refine y (ev_ixV hv rfl rfl Tryz.underlying50 Tryz.sizeOf5 (by omega) (by omega)) rfl ?_
       refine ygo ?_
       refine y (ev_loadV g hv zge rfl Tryz.isAgg5 (by simp) (bytesV_get (by omega))) rfl ?_
       rw [hx]
       refine ygo ?_
       refine y (ev_conv rfl Tryz.underlying5 Tryz.underlying3) rfl ?_
       rw [wr (by omega) (by omega)]
       refine ygo ?_
       refine y (ev_gtr rfl rfl) rfl ?_
       refine ypb ?_
       refine ymv ?_
       refine ysplit 86 rfl (fun h76 => ?_) (fun h76 => ?_)
       ·(try simp only [sH] at h76)
        refine ygz ?_
        refine ygz ?_
        refine ygz ?_
        refine ygz ?_
        refine ygz ?_
        refine ygz ?_
        refine ygz ?_
        refine ygz ?_
        refine ygz ?_
        refine ygz ?_
        refine ygz ?_
        refine ypa ?_
        refine ynil' (kthn (hK26 _ _ ?_))
        clear hK26
        refine ccond1 rfl ?_
        refine cseq ?_; intro K28 hK28
        refine creg ?_
        have hdm := decM_none (recD_texts (k := k0) (h := h0) (r := r) ht4 hnd (by rw [← htx]; first | (rw [hdc] at hti; exact hti.bad (by omega) (by omega)) | (rw [List.drop_eq_nil_of_le (show (k0 :: h0 :: r).length ≤ g by omega)] at hti; exact hti.bad0 (by omega))))
        refine y (ev_loadAll rfl Tryz.isAgg100 Tryz.sizeOf100 zin (by first | rfl | assumption | (simp [*]; done) | (simp [*]; omega))) rfl ?_
        refine ya0 (ac_storeAll rfl rfl (by first | exact bytesV_one _ | (simp [Value.oneCell']; done) | (simp only [List.forall_mem_cons, List.not_mem_nil, false_implies, implies_true, svVal_one, and_true, true_and, and_self]; first | done | simp [Value.oneCell'])) Tryz.sizeOf100 zrp (by first | rfl | assumption | (simp [*]; done) | (simp [*]; omega)) (by first | rfl | assumption | (simp [*]; done) | (simp [*]; omega))) ?_
        rintro v L' ⟨rfl, rfl⟩
        refine yas ?_
        refine ynil' (kthn (hK28 _ _ ?_))
        clear hK28
        refine cret (kthr (kbr (kthr (kthr (kbr (kthr ?_))))))
        first
          | (exfalso; omega; done)
          | (refine kretct Tryz.results45 rfl rfl Tryz.isAgg100 Tryz.sizeOf100 zin (rfl) (L1 := [[], []] ++ R) zge ?_
             rw [hdm]; exact ⟨_, ⟨none, none, rfl, ⟨⟨rfl, rfl⟩, ⟨rfl, rfl⟩⟩, rfl⟩, rfl⟩)
       ·(try simp only [sH] at h76)
        refine ygo ?_
        refine ymv ?_
        refine ygo ?_
        refine y (ev_add rfl rfl) rfl ?_
        rw [wr (by omega) (by omega)]
        refine ygo ?_
        refine ymv ?_
        refine ygo ?_
        refine ymv ?_
        refine ygo ?_
        refine y (ev_ixV hv rfl rfl Tryz.underlying50 Tryz.sizeOf5 (by omega) (by omega)) rfl ?_
        refine ygo ?_
        refine y (ev_loadV g hv zge rfl Tryz.isAgg5 (by simp) (bytesV_get (by omega))) rfl ?_
        rw [hx]
        refine ygo ?_
        refine y (ev_conv rfl Tryz.underlying5 Tryz.underlying3) rfl ?_
        rw [wr (by omega) (by omega)]
        refine ygo ?_
        refine y (ev_add rfl rfl) rfl ?_
        rw [wr (by omega) (by omega)]
        refine ygo ?_
        refine ymv ?_
        refine ygo ?_
        first
          | refine y (ev_len rfl Tryz.underlying50) rfl ?_
          | refine y (ev_lenSv rfl Tryz.underlying50 (by assumption)) rfl ?_
          | refine y (ev_lenV rfl Tryz.underlying50 (RdV.lenVal (by assumption))) rfl ?_
          | refine y (ev_lenV rfl Tryz.underlying50 (RdB.lenVal (by assumption))) rfl ?_
        refine ygo ?_
        refine y (ev_gtr rfl rfl) rfl ?_
        refine ypb ?_
        refine ynil' (kthn (hK26 _ _ ?_))
        clear hK26
        refine ccond rfl (fun h93 => ?_) (fun h93 => ?_)
        ·(try simp only [sH] at h93)
         refine cseq ?_; intro K29 hK29
         refine creg ?_
         have hdm := decM_none (recD_texts (k := k0) (h := h0) (r := r) ht4 hnd (by rw [← htx]; first | (rw [hdc] at hti; exact hti.bad (by omega) (by omega)) | (rw [List.drop_eq_nil_of_le (show (k0 :: h0 :: r).length ≤ g by omega)] at hti; exact hti.bad0 (by omega))))
         refine y (ev_loadAll rfl Tryz.isAgg100 Tryz.sizeOf100 zin (by first | rfl | assumption | (simp [*]; done) | (simp [*]; omega))) rfl ?_
         refine ya0 (ac_storeAll rfl rfl (by first | exact bytesV_one _ | (simp [Value.oneCell']; done) | (simp only [List.forall_mem_cons, List.not_mem_nil, false_implies, implies_true, svVal_one, and_true, true_and, and_self]; first | done | simp [Value.oneCell'])) Tryz.sizeOf100 zrp (by first | rfl | assumption | (simp [*]; done) | (simp [*]; omega)) (by first | rfl | assumption | (simp [*]; done) | (simp [*]; omega))) ?_
         rintro v L' ⟨rfl, rfl⟩
         refine yas ?_
         refine ynil' (kthn (hK29 _ _ ?_))
         clear hK29
         refine cret (kthr (kbr (kthr (kthr (kbr (kthr ?_))))))
         first
           | (exfalso; omega; done)
           | (refine kretct Tryz.results45 rfl rfl Tryz.isAgg100 Tryz.sizeOf100 zin (rfl) (L1 := [[], []] ++ R) zge ?_
              rw [hdm]; exact ⟨_, ⟨none, none, rfl, ⟨⟨rfl, rfl⟩, ⟨rfl, rfl⟩⟩, rfl⟩, rfl⟩)
        ·(try simp only [sH] at h93)
         refine cskip' (kthn (hK25 _ _ ?_))
         clear hK25
         refine cseq ?_; intro K30 hK30
         refine creg ?_
         refine ymv ?_
         refine ymv ?_
         refine y (ev_ixV hv rfl rfl Tryz.underlying50 Tryz.sizeOf5 (by omega) (by omega)) rfl ?_
         refine y (ev_loadV g hv zge rfl Tryz.isAgg5 (by simp) (bytesV_get (by omega))) rfl ?_
         rw [hx]
         refine y (ev_conv rfl Tryz.underlying5 Tryz.underlying3) rfl ?_
         rw [wr (by omega) (by omega)]
         refine yas ?_
         refine ynil' (kthn (hK30 _ _ ?_))
         clear hK30
         refine cseq ?_; intro K31 hK31
         refine cdraw 14 [(0, true), (1, true), (2, true), (3, true), (4, true), (5, true), (6, true), (7, true), (8, true), (9, true), (10, true), (11, false), (12, false), (13, true)] ([sc b7 _ 100] ++ R) Tryz.mixed (by kernel_rfl) zge ?_
         have hsl : RdY R (vSl v (g + 1) (g + 1 + x.toNat) 1) (((k0 :: h0 :: r).drop (g + 1)).take x.toNat) := by
           have := hb.sl (lo := g + 1) (hi := g + 1 + x.toNat) (by omega) (by omega)
           rwa [show g + 1 + x.toNat - (g + 1) = x.toNat by omega] at this
         refine hr rfl (ev_fieldAddr 2 rfl Tryz.underlying100 rfl Tryz.sizeOf98) rfl ?_
         refine hr rfl (ev_load rfl Tryz.isAgg98 zin rfl) rfl ?_
         refine hr rfl (ev_move rfl) rfl ?_
         refine hr rfl (ev_move rfl) rfl ?_
         refine hr rfl (ev_add rfl rfl) rfl ?_
         rw [wr (by omega) (by omega), show (g : Int) + 1 = ((g + 1 : Nat) : Int) by omega]
         refine hr rfl (ev_move rfl) rfl ?_
         refine hr rfl (ev_add rfl rfl) rfl ?_
         rw [wr (by omega) (by omega)]
         refine hr rfl (ev_move rfl) rfl ?_
         refine hr rfl (ev_add rfl rfl) rfl ?_
         rw [wr (by omega) (by omega), show (g : Int) + 1 + ((x.toNat : Nat) : Int) = ((g + 1 + x.toNat : Nat) : Int) by omega]
         refine hr rfl (ev_slLHV hv hb.cap rfl rfl rfl Tryz.underlying50 Tryz.sizeOf5 (by omega) (by omega) (by omega)) rfl ?_
         refine hr rfl (ev_toStrB hsl.rd.bytes zge rfl Tryz.underlying50 Tryz.underlying9 Tryz.underlying5) rfl ?_
         refine ha rfl (ac_bsliceR rfl Tryz.underlying98 Tryz.sizeOf9 Tryz.zeroValue9 rfl rfl rfl rfl ⟨⟨_, _, rfl, (by first | rfl | simp), (by first | decide | simp)⟩, trivial⟩ (by dsimp [fillL, splice, vcells, reps] <;> rfl)) rfl ?_
         rintro v L' ⟨b116, rfl, rfl⟩; refine ⟨zge, ?_⟩
         refine ha rfl (ac_append (s := st) (xs := strsV ts) (m := z) (k := 1) (us := [str (((k0 :: h0 :: r).drop (g + 1)).take x.toNat)]) (size := 1) rfl rfl (by repeat first | exact .z | apply Pk.s) Tryz.underlying98 Tryz.underlying98 (by intro q hq; cases hq) Tryz.typeInfo9 rfl rfl rfl ?ok115 ?src115 ?one115 ?big115) rfl ?_
         case ok115 => exact okt
         case src115 => exact src_at zin rfl rfl
         case one115 => simp [Value.oneCell']
         case big115 => show (z + 1) * 17 ≤ _; omega
         rintro v L' ⟨s117, rfl, ok117, rfl⟩; refine ⟨zge, ?_⟩
         rw [strsV_snoc] at ok117 ⊢
         refine hr rfl (ev_fieldAddr 2 rfl Tryz.underlying100 rfl Tryz.sizeOf98) rfl ?_
         refine hnil ?_
         refine ya0 (ac_store rfl rfl (by first | rfl | exact svVal_one _ _ | assumption) Tryz.sizeOf98 zrp rfl rfl) ?_
         rintro v L' ⟨rfl, rfl⟩
         refine hnoP' (kthn (hK31 _ _ ?_))
         clear hK31
         refine creg ?_
         refine ymv ?_
         refine ymv ?_
         refine y (ev_add rfl rfl) rfl ?_
         rw [wr (by omega) (by omega)]
         refine y (ev_add rfl rfl) rfl ?_
         rw [wr (by omega) (by omega), show (g : Int) + (1 + ((x.toNat : Nat) : Int)) = ((g + 1 + x.toNat : Nat) : Int) by omega]
         rw [hdc] at hti
         have hti2 := hti.step (by omega) (by omega) (by omega)
         rw [List.drop_drop] at hti2
         refine yas ?_
         refine ynil' (kbn (kthn (hK24 _ _ ?_)))
         clear hK24
         refine creg ?_
         refine ymv ?_
         refine y (ev_add rfl rfl) rfl ?_
         rw [show IntKind.i64.wrap ((z:Int) + 1) = ((z+1 : Nat) : Int) by rw [wr (by omega) (by omega)]; rfl]
         refine yas ?_
         refine ynil' (kthn ?_)
         exact hL2 (z + 1, s117, ts ++ [((k0 :: h0 :: r).drop (g + 1)).take x.toNat], g + 1 + x.toNat) ⟨ok117, hti2, by dsimp only; omega⟩ (by dsimp only; omega) _ _ zsub zge
     ·(try simp only [sH] at h55)
      refine cexit (kthx (kthx (kbx (kthn ?_))))
      exact ksub zsub zge (hJ2 ⟨z, st, ts, g⟩ ⟨hI2o, by dsimp only; omega⟩)
    clear hK14
    refine cblock ?_
    refine cloop (A := Nat × Sv × List Int × Nat) (fun x => [(9, i64 x.1), (8, i64 x.2.2.2), (7, ptr b7), (6, i64 tx), (5, i64 nm), (4, ptr b4), (2, ptr b2), (0, v)]) (fun x => [recP b7 k0.toNat x.2.1 x.1 none 0, svSeg x.2.1 2 (intsV x.2.2.1), sc b4 [i64 0, nilS, nilS] 100, sc b2 [i64 0, nilS, nilS] 100] ++ R) (fun x => svOk x.2.1 x.1 1 (intsV x.2.2.1) ∧ NumsI r nm x.1 x.2.2.1 ((k0 :: h0 :: r).drop x.2.2.2) ∧ x.2.2.2 ≤ (k0 :: h0 :: r).length) (fun x => nm - x.1) ((0, none, [], 2)) ?_ zsub zge ?_
    · exact ⟨⟨rfl, rfl⟩, .zero r nm, by simp⟩
    rintro ⟨k, sn, ns, p⟩ hI1 KL1 hL1
    have hI1o := hI1
    obtain ⟨okn, hni, hp⟩ := hI1; dsimp only at okn hni hp ⊢; have hkn := hni.le; unfold recP
    refine cseq ?_; intro K32 hK32
    refine cseq ?_; intro K33 hK33
    refine creg ?_
    refine ymv ?_
    refine ymv ?_
    refine y (ev_lss rfl rfl) rfl ?_
    refine ynil' (kthn (hK33 _ _ ?_))
    clear hK33
    refine ccond rfl (fun h129 => ?_) (fun h129 => ?_)
    ·(try simp only [sH] at h129)
     refine cskip' (kthn (hK32 _ _ ?_))
     clear hK32
     refine cseq ?_; intro K34 hK34
     refine cblock ?_
     refine cseq ?_; intro K35 hK35
     refine creg ?_
     refine ymv ?_
     refine ymv ?_
     refine ycall (rnumber (bs := k0 :: h0 :: r) ?hb132 ?len132 ?ha132) rfl Tryz.call77 ztk rfl ?_
     case hb132 => exact hv.mono zge
     case len132 => exact hl
     case ha132 => exact hp
     rintro v L' ⟨rfl, rfl⟩
     obtain ⟨nt, hnt⟩ : ∃ nt, numT (k0 :: h0 :: r) p = nt := ⟨_, rfl⟩
     rw [hnt]
     have hnt2 := hnt
     unfold numT at hnt2
     refine ymv ?_
     refine yxt ?_
     refine yxt ?_
     refine yxt ?_
     refine yas ?_
     refine yas ?_
     refine yas ?_
     refine ynil' (kthn (hK35 _ _ ?_))
     clear hK35
     refine cseq ?_; intro K36 hK36
     refine cseq ?_; intro K37 hK37
     refine creg ?_
     refine ymv ?_
     refine y (ev_not rfl) rfl ?_
     refine ynil' (kthn (hK37 _ _ ?_))
     clear hK37
     refine ccond rfl (fun h142 => ?_) (fun h142 => ?_)
     ·(try simp only [sH] at h142)
      refine cseq ?_; intro K38 hK38
      refine creg ?_
      have hdm := decM_none (recD_nums (k := k0) (h := h0) (r := r) ht4 (by rw [← hnm]; exact hni.bad (by omega) (num_none hnt (by assumption))))
      refine y (ev_loadAll rfl Tryz.isAgg100 Tryz.sizeOf100 zin (by first | rfl | assumption | (simp [*]; done) | (simp [*]; omega))) rfl ?_
      refine ya0 (ac_storeAll rfl rfl (by first | exact bytesV_one _ | (simp [Value.oneCell']; done) | (simp only [List.forall_mem_cons, List.not_mem_nil, false_implies, implies_true, svVal_one, and_true, true_and, and_self]; first | done | simp [Value.oneCell'])) Tryz.sizeOf100 zrp (by first | rfl | assumption | (simp [*]; done) | (simp [*]; omega)) (by first | rfl | assumption | (simp [*]; done) | (simp [*]; omega))) ?_
      rintro v L' ⟨rfl, rfl⟩
      refine yas ?_
      refine ynil' (kthn (hK38 _ _ ?_))
      clear hK38
      refine cret (kthr (kbr (kthr (kthr (kbr (kthr ?_))))))
      first
        | (exfalso; omega; done)
        | (refine kretct Tryz.results45 rfl rfl Tryz.isAgg100 Tryz.sizeOf100 zin (rfl) (L1 := [[], []] ++ R) zge ?_
           rw [hdm]; exact ⟨_, ⟨none, none, rfl, ⟨⟨rfl, rfl⟩, ⟨rfl, rfl⟩⟩, rfl⟩, rfl⟩)
     ·(try simp only [sH] at h142)
      refine cskip' (kthn (hK36 _ _ ?_))
      clear hK36
      refine cseq ?_; intro K39 hK39
      refine creg ?_
      obtain ⟨q, hq, hq1, hq2, hq3, hq4⟩ := num_some hnt hp (by assumption)
      rw [hq1]
      refine y (ev_fieldAddr 1 rfl Tryz.underlying100 rfl Tryz.sizeOf53) rfl ?_
      refine y (ev_load rfl Tryz.isAgg53 zin rfl) rfl ?_
      refine ymv ?_
      refine ya (ac_bsliceR rfl Tryz.underlying53 Tryz.sizeOf2 Tryz.zeroValue2 rfl rfl rfl rfl ⟨⟨_, _, rfl, (by first | rfl | simp), (by first | decide | simp)⟩, trivial⟩ (by dsimp [fillL, splice, vcells, reps] <;> rfl)) rfl ?_
      rintro v L' ⟨b65, rfl, rfl⟩
      refine ya (ac_append (s := sn) (xs := intsV ns) (m := k) (k := 1) (us := [i64 (zag q.1)]) (size := 1) rfl rfl (by repeat first | exact .z | apply Pk.s) Tryz.underlying53 Tryz.underlying53 (by intro q hq; cases hq) Tryz.typeInfo2 rfl rfl rfl ?ok150 ?src150 ?one150 ?big150) rfl ?_
      case ok150 => exact okn
      case src150 => exact src_at zin rfl rfl
      case one150 => simp [Value.oneCell']
      case big150 => show (k + 1) * 9 ≤ _; omega
      rintro v L' ⟨s66, rfl, ok66, rfl⟩
      rw [intsV_snoc] at ok66 ⊢
      refine y (ev_fieldAddr 1 rfl Tryz.underlying100 rfl Tryz.sizeOf53) rfl ?_
      refine ya0 (ac_store rfl rfl (by first | rfl | exact svVal_one _ _ | assumption) Tryz.sizeOf53 zrp rfl rfl) ?_
      rintro v L' ⟨rfl, rfl⟩
      refine ynil' (kthn (hK39 _ _ ?_))
      clear hK39
      refine creg ?_
      refine ymv ?_
      refine yas ?_
      rw [hq2]
      have hni2 := hni.step (by omega) hq
      rw [← hq3] at hni2
      refine ynil' (kbn (kthn (hK34 _ _ ?_)))
      clear hK34
      refine creg ?_
      refine ymv ?_
      refine y (ev_add rfl rfl) rfl ?_
      rw [show IntKind.i64.wrap ((k:Int) + 1) = ((k+1 : Nat) : Int) by rw [wr (by omega) (by omega)]; rfl]
      refine yas ?_
      refine ynil' (kthn ?_)
      exact hL1 (k + 1, s66, ns ++ [zag q.1], (k0 :: h0 :: r).length - q.2.length) ⟨ok66, hni2, by dsimp only; omega⟩ (by dsimp only; omega) _ _ zsub zge
    ·(try simp only [sH] at h129)
     refine cexit (kthx (kthx (kbx (kthn ?_))))
     exact ksub zsub zge (hJ1 ⟨k, sn, ns, p⟩ ⟨hI1o, by dsimp only; omega⟩)
  clear hK8
  refine cseq ?_; intro K40 hK40
  refine creg ?_
  refine ymv ?_
  refine y (ev_ixV hv rfl rfl Tryz.underlying50 Tryz.sizeOf5 (by omega) (by omega)) rfl ?_
  refine y (ev_loadV 1 hv zge rfl Tryz.isAgg5 rfl rfl) rfl ?_
  refine y (ev_geq rfl rfl) rfl ?_
  refine ynil' (kthn (hK40 _ _ ?_))
  clear hK40
  refine ccond rfl (fun h162 => ?_) (fun h162 => ?_)
  ·(try simp only [sH] at h162)
   refine cseq ?_; intro K41 hK41
   refine creg ?_
   refine yas ?_
   rw [show Value.int .i64 16 = i64 ((16 : Nat) : Int) from rfl]
   refine ynil' (kthn (hK41 _ _ ?_))
   clear hK41
   refine creg ?_
   refine ymv ?_
   refine y (ev_ixV hv rfl rfl Tryz.underlying50 Tryz.sizeOf5 (by omega) (by omega)) rfl ?_
   refine y (ev_loadV 1 hv zge rfl Tryz.isAgg5 rfl rfl) rfl ?_
   refine y (ev_conv rfl Tryz.underlying5 Tryz.underlying3) rfl ?_
   rw [wr (by omega) (by omega)]
   refine y (ev_sub rfl rfl) rfl ?_
   rw [wr (by omega) (by omega), show ((h0.toNat : Nat) : Int) - 240 = ((h0.toNat - 240 : Nat) : Int) by omega]
   refine yas ?_
   refine ynil' (kthn ?_)
   first
     | (exfalso; omega; done)
     | exact ksub zsub zge (hJr9 (_, _) (⟨by dsimp only; unfold headN; first | (rw [if_pos (by omega)]; done) | (rw [if_neg (by omega)]; done), by dsimp only; unfold headT; first | (rw [if_pos (by omega)]; done) | (rw [if_neg (by omega)]; done)⟩))
  ·(try simp only [sH] at h162)
   refine cskip' (kthn ?_)
   first
     | (exfalso; omega; done)
     | exact ksub zsub zge (hJr9 (_, _) (⟨by dsimp only; unfold headN; first | (rw [if_pos (by omega)]; done) | (rw [if_neg (by omega)]; done), by dsimp only; unfold headT; first | (rw [if_pos (by omega)]; done) | (rw [if_neg (by omega)]; done)⟩))
end W
end Go.Proofs
