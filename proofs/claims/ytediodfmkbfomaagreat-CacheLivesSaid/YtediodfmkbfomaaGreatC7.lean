/- A part of the proof: contracts and plain lemmas, each without conditions beyond those that it names. -/
import Derived.Test.YtediodfmkbfomaaGreatC6
set_option linter.unusedVariables false
set_option linter.unusedSimpArgs false
set_option linter.constructorNameAsVariable false
namespace Go.Proofs
open Go Go.Sl
namespace W
set_option linter.unusedVariables false
theorem kNeeded [Env] {R : List Seg} {A : CaA} {q : Q3} {sl : Sv} {C : CaM} (hC : C.mok) (hn : (C.pu.map (·.2.1)).Nodup) :
    Con Tryz.prog 72 [ptr A.p] [caP A C, enS A C, puS A C, lgS A q sl C] R (Is (.tuple #[entV (C.needed.getD .zero), .bool C.needed.isSome]) [caP A C, enS A C, puS A C, lgS A q sl C]) := by
  refine con_enter Tryz.func72 Tryz.ntmps72 rfl rfl ?_
  unfold caP caC enS puS lgS
  refine cseq ?_; intro K1 hK1
  refine creg ?_
  refine ya (ac_alloc Tryz.zeroValue34 rfl) rfl ?_
  rintro v L' ⟨b2, rfl, rfl⟩
  refine y (ev_assign rfl) rfl ?_
  refine ynil' (kthn (hK1 _ _ ?_))
  clear hK1
  refine cseq ?_; intro K2 hK2
  refine cseq ?_; intro K3 hK3
  refine creg ?_
  refine y (ev_move rfl) rfl ?_
  refine y (ev_nil rfl) rfl ?_
  refine y (ev_fieldAddr 4 rfl Tryz.underlying84 rfl Tryz.sizeOf80) rfl ?_
  refine y (ev_load rfl Tryz.isAgg80 zin rfl) rfl ?_
  refine ya (ac_range rfl Tryz.underlying80 zin) rfl ?_
  rintro v L' ⟨i10, rfl, rfl⟩
  refine ynil' (kthn (hK3 _ _ ?_))
  clear hK3
  refine cblock ?_
  refine cloop (A := List Nat) (fun x => [(10, ptr i10), (2, ptr b2), (0, ptr A.p)]) (fun x => [so i10 (.mapIter (some A.mp) C.cp x.toArray C.cp), sc b2 [i64 0, i64 0, i64 0, str [], .bool false, i64 0, i64 0] 34, sc A.p (caC A C) 84, so A.me (.map (ents (akv entV C.en)) C.ce), so A.mp (.map (ents (akv numV C.pu)) C.cp), logG A.lp A.lc q sl C.l] ++ R) (fun x => ∀ y ∈ C.pu, y.2.2 ∈ x → ¬ y.2.1 = C.l.head) (fun x => (left (akv numV C.pu) x).length) ([]) ?_ zsub zge ?_
  · exact fun _ _ h => by cases h
  rintro seen hI1 KL1 hL1
  have hse := hI1; unfold caC
  refine cseq ?_; intro K4 hK4
  refine creg ?_
  refine ya (ac_next rfl zin zin ?st8 (fun _ => zrp)) rfl ?_
  case st8 => exact akv_stamped _ hC.p
  rintro v L' (⟨hov11, rfl, rfl⟩ | ⟨x11, hx11, rfl, rfl⟩)
  ·have hnone := needed_none hse hov11
   refine y (ev_extract rfl rfl) rfl ?_
   refine ynil' (kthn (hK4 _ _ ?_))
   clear hK4
   refine cseq ?_; intro K5 hK5
   refine ccond0 rfl ?_
   refine cexit (kthx (kthx (kbx (kthn (hK2 _ _ ?_)))))
   clear hK2
   refine cseq ?_; intro K6 hK6
   refine creg ?_
   refine y (ev_build (zs := _) rfl Tryz.underlying34 Tryz.zeroValue34 rfl (.cons Tryz.sizeOf3 (.cons Tryz.sizeOf31 (.cons Tryz.sizeOf9 (.cons Tryz.sizeOf4 (.cons Tryz.sizeOf3 (.cons Tryz.sizeOf2 .nil)))))) trivial (by dsimp [fillL, splice, vcells] <;> rfl)) rfl ?_
   refine ya0 (ac_storeAll rfl rfl (by first | exact bytesV_one _ | (simp [Value.oneCell']; done) | (simp only [List.forall_mem_cons, List.not_mem_nil, false_implies, implies_true, svVal_one, and_true, true_and, and_self]; first | done | simp [Value.oneCell'])) Tryz.sizeOf34 zrp (by first | rfl | assumption | (simp [*]; done) | (simp [*]; omega)) (by first | rfl | assumption | (simp [*]; done) | (simp [*]; omega))) ?_
   rintro v L' ⟨rfl, rfl⟩
   refine y (ev_assign rfl) rfl ?_
   refine ynil' (kthn (hK6 _ _ ?_))
   clear hK6
   refine cret ?_
   first
     | (exfalso; omega; done)
     | (refine kretct Tryz.results72 rfl rfl Tryz.isAgg34 Tryz.sizeOf34 zin (rfl) (L1 := [sc A.p _ 84, so A.me _, so A.mp _, logG _ _ _ _ _] ++ R) zge ?_
        exact ⟨_, ⟨by first | (rw [hneed]; rfl) | (rw [hnone]; rfl) | rfl, rfl⟩, by first | (rw [hneed]; rfl) | (rw [hnone]; rfl) | rfl⟩)
  ·obtain ⟨k11, v11, b11, rfl, hm11, hs11⟩ := left_akv hx11
   refine y (ev_extract rfl rfl) rfl ?_
   refine ynil' (kthn (hK4 _ _ ?_))
   clear hK4
   refine cseq ?_; intro K7 hK7
   refine ccond1 rfl ?_
   refine cskip' (kthn (hK7 _ _ ?_))
   clear hK7
   refine cblock ?_
   refine cseq ?_; intro K8 hK8
   refine creg ?_
   refine y (ev_entry rfl zin zin ?st14 ?mem14) rfl ?_
   case st14 => exact akv_stamped _ hC.p
   case mem14 => exact left_mem hx11
   refine y (ev_extract rfl rfl) rfl ?_
   refine y (ev_extract rfl rfl) rfl ?_
   refine y (ev_assign rfl) rfl ?_
   refine y (ev_assign rfl) rfl ?_
   refine ynil' (kthn (hK8 _ _ ?_))
   clear hK8
   refine cseq ?_; intro K9 hK9
   refine creg ?_
   refine y (ev_move rfl) rfl ?_
   refine y (ev_move rfl) rfl ?_
   refine y (ev_nil rfl) rfl ?_
   refine y (ev_fieldAddr 0 rfl Tryz.underlying84 rfl Tryz.sizeOf79) rfl ?_
   refine y (ev_load rfl Tryz.isAgg79 zin rfl) rfl ?_
   refine ycall (bHead) rfl Tryz.call50 ztk rfl ?_
   rintro v L' ⟨rfl, rfl⟩
   refine y (ev_eql (p := v11) (q := C.l.head) rfl rfl) rfl ?_
   refine ynil' (kthn (hK9 _ _ ?_))
   clear hK9
   refine ccond rfl (fun h26 => ?_) (fun h26 => ?_)
   ·(try simp only [sH] at h26)
    have hneed := needed_some hn hm11 h26
    refine cseq ?_; intro K10 hK10
    refine creg ?_
    refine y (ev_move rfl) rfl ?_
    refine y (ev_nil rfl) rfl ?_
    refine y (ev_fieldAddr 3 rfl Tryz.underlying84 rfl Tryz.sizeOf29) rfl ?_
    refine y (ev_load rfl Tryz.isAgg29 zin rfl) rfl ?_
    refine y (ev_move rfl) rfl ?_
    refine y (ev_lookup (z := entV .zero) (kv := akv entV C.en) rfl rfl Tryz.underlying29 Tryz.underlying3 Tryz.zeroValue34 zin) rfl ?_
    rw [akv_get, lk_entV]
    refine ya0 (ac_storeAll rfl rfl (ent_one _) Tryz.sizeOf34 zrp rfl rfl) ?_
    rintro v L' ⟨rfl, rfl⟩
    refine y (ev_assign rfl) rfl ?_
    refine ynil' (kthn (hK10 _ _ ?_))
    clear hK10
    refine cret (kbr (kthr (kbr (kthr ?_))))
    first
      | (exfalso; omega; done)
      | (refine kretct Tryz.results72 rfl rfl Tryz.isAgg34 Tryz.sizeOf34 zin (rfl) (L1 := [sc A.p _ 84, so A.me _, so A.mp _, logG _ _ _ _ _] ++ R) zge ?_
         exact ⟨_, ⟨by first | (rw [hneed]; rfl) | (rw [hnone]; rfl) | rfl, rfl⟩, by first | (rw [hneed]; rfl) | (rw [hnone]; rfl) | rfl⟩)
   ·(try simp only [sH] at h26)
    refine cskip' (kbn (kthn ?_))
    exact hL1 (seen ++ [b11]) (fun y hy hb => by
      rcases List.mem_append.1 hb with hb | hb
      · exact hse y hy hb
      · simp only [List.mem_singleton] at hb; have e := once_eq hC.p hy hm11 hb; subst e; assumption) (left_lt hx11) _ _ zsub zge
/-- What is behind a step of the cache. -/
def KC (A : CaA) (q : Q3) (C : CaM) (r : Int × CaM × Dev) (u : Value) (L' : List Seg) : Prop :=
  ∃ sl', u = i64 r.1 ∧ itOk sl' r.2.1.l ∧ L' = [caP A r.2.1, enS A r.2.1, puS A r.2.1, lgS A q sl' r.2.1, dev q r.2.2]
theorem kAdd [Env] {R : List Seg} {A : CaA} {q : Q3} {sl : Sv} {C : CaM} {D : Dev} {w : WhatM} {k : KeptM} (hC : C.ok D) (hs : itOk sl C.l) (hw : CrecM.ok C.bl ⟨w, k⟩) :
    Con Tryz.prog 45 [ptr A.p, WhatM.val w, keptV k] [caP A C, enS A C, puS A C, lgS A q sl C, dev q D] R (KC A q C (C.add D ⟨w, k⟩)) := by
  obtain ⟨hl1, hl2, hl3, hl4, hl5, hl6, hl7⟩ := hC.lim
  have hbl := hC.bl
  refine con_enter Tryz.func45 Tryz.ntmps45 rfl rfl ?_
  unfold caP caC lgS
  refine cseq ?_; intro K1 hK1
  refine creg ?_
  refine ya (ac_box rfl rfl) rfl ?_
  rintro v L' ⟨b5, rfl, rfl⟩
  refine y (ev_assign rfl) rfl ?_
  refine ynil' (kthn (hK1 _ _ ?_))
  clear hK1
  refine cseq ?_; intro K2 hK2
  refine creg ?_
  refine y (ev_move rfl) rfl ?_
  refine y (ev_loadAll rfl Tryz.isAgg82 Tryz.sizeOf82 zin (by first | rfl | assumption | (simp [*]; done) | (simp [*]; omega))) rfl ?_
  refine y (ev_build (zs := [.nilIface, i64 0, i64 0, i64 0, i64 0, i64 0, i64 0]) (vs := recA ⟨w, k⟩) rfl Tryz.underlying101 Tryz.zeroValue101 rfl (.cons Tryz.sizeOf20 (.cons Tryz.sizeOf82 .nil)) ⟨⟨_, _, rfl, (by rw [vcells_val]; rfl), (by decide)⟩, ⟨_, _, rfl, rfl, (by decide)⟩, trivial⟩ (by simp only [fillL, splice, vcells_val]; rfl)) rfl ?_
  refine ya (ac_alloc Tryz.zeroValue101 rfl) rfl ?_
  rintro v L' ⟨b7, rfl, rfl⟩
  refine ya0 (ac_storeAll rfl rfl (recA_one _) Tryz.sizeOf101 zrp rfl rfl) ?_
  rintro v L' ⟨rfl, rfl⟩
  refine ynil' (kthn (hK2 _ _ ?_))
  clear hK2
  refine cseq ?_; intro K3 hK3
  refine creg ?_
  refine y (ev_move rfl) rfl ?_
  refine y (ev_nil rfl) rfl ?_
  refine y (ev_fieldAddr 0 rfl Tryz.underlying84 rfl Tryz.sizeOf79) rfl ?_
  refine y (ev_load rfl Tryz.isAgg79 zin rfl) rfl ?_
  refine ycall (bTail ?its46 ?lh46 ?lt46 ?ll46) rfl Tryz.call56 ztk rfl ?_
  case its46 => exact hs
  case lh46 => omega
  case lt46 => omega
  case ll46 => omega
  rintro v L' ⟨rfl, rfl⟩
  refine y (ev_assign rfl) rfl ?_
  refine ynil' (kthn (hK3 _ _ ?_))
  clear hK3
  refine cseq ?_; intro K4 hK4
  refine cdraw 6 [(0, true), (1, true), (2, true), (3, true), (4, true), (5, false)] ([sc b7 (recA ⟨w, k⟩) 101, sc A.p _ 84] ++ R) Tryz.mixed (by kernel_rfl) zge ?_
  refine hr rfl (ev_move rfl) rfl ?_
  refine hr rfl (ev_nil rfl) rfl ?_
  refine hr rfl (ev_fieldAddr 0 rfl Tryz.underlying84 rfl Tryz.sizeOf79) rfl ?_
  refine hr rfl (ev_load rfl Tryz.isAgg79 zin rfl) rfl ?_
  refine hr rfl (ev_loadN (u := recA ⟨w, k⟩) rfl Tryz.isAgg101 Tryz.sizeOf101 zin rfl rfl) rfl ?_
  refine hcall rfl (kBytes (bl := C.bl) ?bok53 ?bl53) rfl Tryz.call58 ztk rfl ?_
  case bok53 => exact hw
  case bl53 => omega
  rintro v L' ⟨rfl, rfl⟩; refine ⟨zge, ?_⟩
  refine hnil ?_
  refine ycall (bAppend ?lok54 ?its54) rfl Tryz.call57 ztk rfl ?_
  case lok54 => exact hC.l
  case its54 => exact hs
  rintro v L' ⟨sl24, rfl, ok24, rfl⟩
  obtain ⟨a, ha3⟩ : ∃ a, C.l.append D (recB (CrecM.rc ⟨w, k⟩)) = a := ⟨_, rfl⟩
  have hadd : C.add D ⟨w, k⟩ = (a.1, if a.1 = 0 then CaM.does { C with l := a.2.1 } ⟨w, k⟩ C.l.tail else { C with l := a.2.1 }, a.2.2) := by unfold CaM.add; rw [ha3]
  rw [ha3] at ok24 ⊢
  refine y (ev_assign rfl) rfl ?_
  refine hnoP' (kthn (hK4 _ _ ?_))
  clear hK4
  refine cseq ?_; intro K5 hK5
  refine cseq ?_; intro K6 hK6
  refine creg ?_
  refine y (ev_move rfl) rfl ?_
  refine y (ev_eql rfl rfl) rfl ?_
  refine ynil' (kthn (hK6 _ _ ?_))
  clear hK6
  refine ccond rfl (fun h58 => ?_) (fun h58 => ?_)
  ·(try simp only [sH] at h58)
   rw [if_pos h58] at hadd; obtain ⟨C1, hC1⟩ : ∃ C1, C1 = CaM.does { C with l := a.2.1 } ⟨w, k⟩ C.l.tail := ⟨_, rfl⟩; have hl : C1.l = a.2.1 := by rw [hC1]; exact (CaM.does_l _ _ _).1
   refine creg ?_
   refine y (ev_move rfl) rfl ?_
   refine y (ev_loadN (u := recA ⟨w, k⟩) rfl Tryz.isAgg101 Tryz.sizeOf101 zin rfl rfl) rfl ?_
   refine y (ev_move rfl) rfl ?_
   refine ycall (kDoes (C := { C with l := a.2.1 }) (r := ⟨w, k⟩) ?mok62) rfl Tryz.call49 ztk rfl ?_
   case mok62 => exact ⟨hC.m.e, hC.m.p⟩
   rintro v L' ⟨rfl, rfl⟩
   rw [← hC1]
   refine ynil' (kthn (hK5 _ _ ?_))
   clear hK5
   refine cseq ?_; intro K7 hK7
   refine creg ?_
   refine y (ev_move rfl) rfl ?_
   refine y (ev_assign rfl) rfl ?_
   refine ynil' (kthn (hK7 _ _ ?_))
   clear hK7
   refine cret ?_
   first
     | (exfalso; omega; done)
     | (refine kretv Tryz.results45 rfl (L1 := [caP A C1, enS A C1, puS A C1, logG A.lp A.lc q sl24 a.2.1, dev q a.2.2] ++ R) zge ?_
        rw [hadd, ← hC1]; exact ⟨_, ⟨sl24, rfl, by dsimp only; rw [hl]; exact ok24, by unfold lgS; dsimp only; rw [hl]⟩, rfl⟩)
     | (refine kretv Tryz.results45 rfl (L1 := [caP A { C with l := a.2.1 }, enS A { C with l := a.2.1 }, puS A { C with l := a.2.1 }, logG A.lp A.lc q sl24 a.2.1, dev q a.2.2] ++ R) zge ?_
        rw [hadd]; exact ⟨_, ⟨sl24, rfl, ok24, rfl⟩, rfl⟩)
  ·(try simp only [sH] at h58)
   rw [if_neg h58] at hadd
   refine cskip' (kthn (hK5 _ _ ?_))
   clear hK5
   refine cseq ?_; intro K8 hK8
   refine creg ?_
   refine y (ev_move rfl) rfl ?_
   refine y (ev_assign rfl) rfl ?_
   refine ynil' (kthn (hK8 _ _ ?_))
   clear hK8
   refine cret ?_
   first
     | (exfalso; omega; done)
     | (refine kretv Tryz.results45 rfl (L1 := [caP A C1, enS A C1, puS A C1, logG A.lp A.lc q sl24 a.2.1, dev q a.2.2] ++ R) zge ?_
        rw [hadd, ← hC1]; exact ⟨_, ⟨sl24, rfl, by dsimp only; rw [hl]; exact ok24, by unfold lgS; dsimp only; rw [hl]⟩, rfl⟩)
     | (refine kretv Tryz.results45 rfl (L1 := [caP A { C with l := a.2.1 }, enS A { C with l := a.2.1 }, puS A { C with l := a.2.1 }, logG A.lp A.lc q sl24 a.2.1, dev q a.2.2] ++ R) zge ?_
        rw [hadd]; exact ⟨_, ⟨sl24, rfl, ok24, rfl⟩, rfl⟩)
end W
end Go.Proofs
