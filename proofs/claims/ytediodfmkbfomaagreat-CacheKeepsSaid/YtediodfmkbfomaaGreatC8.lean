/- A part of the proof: contracts and plain lemmas, each without conditions beyond those that it names. -/
import Derived.Test.YtediodfmkbfomaaGreatC6
set_option linter.unusedVariables false
set_option linter.unusedSimpArgs false
set_option linter.constructorNameAsVariable false
namespace Go.Proofs
open Go Go.Sl
namespace W
set_option linter.unusedVariables false
theorem kNeeded [Env] {R : List Seg} {A : CaA} {q : Q3} {sl : Sv} {C : CaM} (hC : C.mok) (hn : (C.pu.map (·.2.1)).Nodup) :
   Con Tryz.prog 72 [ptr A.p] [caP A C, enS A C, puS A C, lgS A q sl C] R (Is (.tuple #[entV (C.needed.getD .zero), .bool C.needed.isSome]) [caP A C, enS A C, puS A C, lgS A q sl C]) := by
 refine con_enter Tryz.func72 Tryz.ntmps72 rfl rfl ?_
 unfold caP caC enS puS lgS
 refine cseq ?_; intro K1 hK1
 refine creg ?_
 refine ya (ac_alloc Tryz.zeroValue34 rfl) rfl ?_
 rintro v L' ⟨b2, rfl, rfl⟩
 refine yas ?_
 refine ynil' (kthn (hK1 _ _ ?_))
 clear hK1
 refine cseq ?_; intro K2 hK2
 refine cseq ?_; intro K3 hK3
 refine creg ?_
 refine ymv ?_
 refine yni ?_
 refine y (ev_fieldAddr 4 rfl Tryz.underlying84 rfl Tryz.sizeOf80) rfl ?_
 refine y (ev_load rfl Tryz.isAgg80 zin rfl) rfl ?_
 refine ya (ac_range rfl Tryz.underlying80 zin) rfl ?_
 rintro v L' ⟨i10, rfl, rfl⟩
 refine ynil' (kthn (hK3 _ _ ?_))
 clear hK3
 refine cblock ?_
 refine cloop (A := List Nat) (fun x => [(10, ptr i10), (2, ptr b2), (0, ptr A.p)]) (fun x => [so i10 (.mapIter (some A.mp) C.cp x.toArray C.cp), sc b2 [i64 0, i64 0, i64 0, str [], .bool false, i64 0, i64 0] 34, sc A.p (caC A C) 84, so A.me (.map (ents (akv entV C.en)) C.ce), so A.mp (.map (ents (akv numV C.pu)) C.cp), logG A.lp A.lc q sl C.l] ++ R) (fun x => ∀ y ∈ C.pu, y.2.2 ∈ x → ¬ y.2.1 = C.l.head) (fun x => (left (akv numV C.pu) x).length) ([]) ?_ zsub zge ?_
 · exact fun _ _ h => by cases h
 rintro seen hI1 KL1 hL1
 have hse := hI1; unfold caC
 refine cseq ?_; intro K4 hK4
 refine creg ?_
 refine ya (ac_next rfl zin zin ?st8 (fun _ => zrp)) rfl ?_
 case st8 => exact akv_stamped _ hC.p
 rintro v L' (⟨hov11, rfl, rfl⟩ | ⟨x11, hx11, rfl, rfl⟩)
 ·have hnone := needed_none hse hov11
  refine yxt ?_
  refine ynil' (kthn (hK4 _ _ ?_))
  clear hK4
  refine cseq ?_; intro K5 hK5
  refine ccond0 rfl ?_
  refine cexit (kthx (kthx (kbx (kthn (hK2 _ _ ?_)))))
  clear hK2
  refine cseq ?_; intro K6 hK6
  refine creg ?_
  refine y (ev_build (zs := _) rfl Tryz.underlying34 Tryz.zeroValue34 rfl (.cons Tryz.sizeOf3 (.cons Tryz.sizeOf31 (.cons Tryz.sizeOf9 (.cons Tryz.sizeOf4 (.cons Tryz.sizeOf3 (.cons Tryz.sizeOf2 .nil)))))) trivial (by dsimp [fillL, splice, vcells] <;> rfl)) rfl ?_
  refine ya0 (ac_storeAll rfl rfl (by first | exact bytesV_one _ | (simp [Value.oneCell']; done) | (simp only [List.forall_mem_cons, List.not_mem_nil, false_implies, implies_true, svVal_one, and_true, true_and, and_self]; first | done | simp [Value.oneCell'])) Tryz.sizeOf34 zrp (by first | rfl | assumption | (simp [*]; done) | (simp [*]; omega)) (by first | rfl | assumption | (simp [*]; done) | (simp [*]; omega))) ?_
  rintro v L' ⟨rfl, rfl⟩
  refine yas ?_
  refine ynil' (kthn (hK6 _ _ ?_))
  clear hK6
  refine cret ?_
  first
    | (exfalso; omega; done)
    | (refine kretct Tryz.results72 rfl rfl Tryz.isAgg34 Tryz.sizeOf34 zin (rfl) (L1 := [sc A.p _ 84, so A.me _, so A.mp _, logG _ _ _ _ _] ++ R) zge ?_
       exact ⟨_, ⟨by first | (rw [hneed]; rfl) | (rw [hnone]; rfl) | rfl, rfl⟩, by first | (rw [hneed]; rfl) | (rw [hnone]; rfl) | rfl⟩)
 ·obtain ⟨k11, v11, b11, rfl, hm11, hs11⟩ := left_akv hx11
  refine yxt ?_
  refine ynil' (kthn (hK4 _ _ ?_))
  clear hK4
  refine cseq ?_; intro K7 hK7
  refine ccond1 rfl ?_
  refine cskip' (kthn (hK7 _ _ ?_))
  clear hK7
  refine cblock ?_
  refine cseq ?_; intro K8 hK8
  refine creg ?_
  refine y (ev_entry rfl zin zin ?st14 ?mem14) rfl ?_
  case st14 => exact akv_stamped _ hC.p
  case mem14 => exact left_mem hx11
  refine yxt ?_
  refine yxt ?_
  refine yas ?_
  refine yas ?_
  refine ynil' (kthn (hK8 _ _ ?_))
  clear hK8
  refine cseq ?_; intro K9 hK9
  refine creg ?_
  refine ymv ?_
  refine ymv ?_
  refine yni ?_
  refine y (ev_fieldAddr 0 rfl Tryz.underlying84 rfl Tryz.sizeOf79) rfl ?_
  refine y (ev_load rfl Tryz.isAgg79 zin rfl) rfl ?_
  refine ycall (bHead) rfl Tryz.call50 ztk rfl ?_
  rintro v L' ⟨rfl, rfl⟩
  refine y (ev_eql (p := v11) (q := C.l.head) rfl rfl) rfl ?_
  refine ynil' (kthn (hK9 _ _ ?_))
  clear hK9
  refine ccond rfl (fun h26 => ?_) (fun h26 => ?_)
  ·(try simp only [sH] at h26)
   have hneed := needed_some hn hm11 h26
   refine cseq ?_; intro K10 hK10
   refine creg ?_
   refine ymv ?_
   refine yni ?_
   refine y (ev_fieldAddr 3 rfl Tryz.underlying84 rfl Tryz.sizeOf29) rfl ?_
   refine y (ev_load rfl Tryz.isAgg29 zin rfl) rfl ?_
   refine ymv ?_
   refine y (ev_lookup (z := entV .zero) (kv := akv entV C.en) rfl rfl Tryz.underlying29 Tryz.underlying3 Tryz.zeroValue34 zin) rfl ?_
   rw [akv_get, lk_entV]
   refine ya0 (ac_storeAll rfl rfl (ent_one _) Tryz.sizeOf34 zrp rfl rfl) ?_
   rintro v L' ⟨rfl, rfl⟩
   refine yas ?_
   refine ynil' (kthn (hK10 _ _ ?_))
   clear hK10
   refine cret (kbr (kthr (kbr (kthr ?_))))
   first
     | (exfalso; omega; done)
     | (refine kretct Tryz.results72 rfl rfl Tryz.isAgg34 Tryz.sizeOf34 zin (rfl) (L1 := [sc A.p _ 84, so A.me _, so A.mp _, logG _ _ _ _ _] ++ R) zge ?_
        exact ⟨_, ⟨by first | (rw [hneed]; rfl) | (rw [hnone]; rfl) | rfl, rfl⟩, by first | (rw [hneed]; rfl) | (rw [hnone]; rfl) | rfl⟩)
  ·(try simp only [sH] at h26)
   refine cskip' (kbn (kthn ?_))
   exact hL1 (seen ++ [b11]) (fun y hy hb => by
     rcases List.mem_append.1 hb with hb | hb
     · exact hse y hy hb
     · simp only [List.mem_singleton] at hb; have e := once_eq hC.p hy hm11 hb; subst e; assumption) (left_lt hx11) _ _ zsub zge
/-- What is behind a step of the cache. -/
def KC (A : CaA) (q : Q3) (C : CaM) (r : Int × CaM × Dev) (u : Value) (L' : List Seg) : Prop :=
 ∃ sl', u = i64 r.1 ∧ itOk sl' r.2.1.l ∧ L' = [caP A r.2.1, enS A r.2.1, puS A r.2.1, lgS A q sl' r.2.1, dev q r.2.2]
theorem kAdd [Env] {R : List Seg} {A : CaA} {q : Q3} {sl : Sv} {C : CaM} {D : Dev} {w : WhatM} {k : KeptM} (hC : C.ok D) (hs : itOk sl C.l) (hw : CrecM.ok C.bl ⟨w, k⟩) :
   Con Tryz.prog 45 [ptr A.p, WhatM.val w, keptV k] [caP A C, enS A C, puS A C, lgS A q sl C, dev q D] R (KC A q C (C.add D ⟨w, k⟩)) := by
 obtain ⟨hl1, hl2, hl3, hl4, hl5, hl6, hl7⟩ := hC.lim
 have hbl := hC.bl
 refine con_enter Tryz.func45 Tryz.ntmps45 rfl rfl ?_
 unfold caP caC lgS
 refine cseq ?_; intro K1 hK1
 refine creg ?_
 refine ya (ac_box rfl rfl) rfl ?_
 rintro v L' ⟨b5, rfl, rfl⟩
 refine yas ?_
 refine ynil' (kthn (hK1 _ _ ?_))
 clear hK1
 refine cseq ?_; intro K2 hK2
 refine creg ?_
 refine ymv ?_
 refine y (ev_loadAll rfl Tryz.isAgg82 Tryz.sizeOf82 zin (by first | rfl | assumption | (simp [*]; done) | (simp [*]; omega))) rfl ?_
 refine y (ev_build (zs := [.nilIface, i64 0, i64 0, i64 0, i64 0, i64 0, i64 0]) (vs := recA ⟨w, k⟩) rfl Tryz.underlying101 Tryz.zeroValue101 rfl (.cons Tryz.sizeOf20 (.cons Tryz.sizeOf82 .nil)) ⟨⟨_, _, rfl, (by rw [vcells_val]; rfl), (by decide)⟩, ⟨_, _, rfl, rfl, (by decide)⟩, trivial⟩ (by simp only [fillL, splice, vcells_val]; rfl)) rfl ?_
 refine ya (ac_alloc Tryz.zeroValue101 rfl) rfl ?_
 rintro v L' ⟨b7, rfl, rfl⟩
 refine ya0 (ac_storeAll rfl rfl (recA_one _) Tryz.sizeOf101 zrp rfl rfl) ?_
 rintro v L' ⟨rfl, rfl⟩
 refine ynil' (kthn (hK2 _ _ ?_))
 clear hK2
 refine cseq ?_; intro K3 hK3
 refine creg ?_
 refine ymv ?_
 refine yni ?_
 refine y (ev_fieldAddr 0 rfl Tryz.underlying84 rfl Tryz.sizeOf79) rfl ?_
 refine y (ev_load rfl Tryz.isAgg79 zin rfl) rfl ?_
 refine ycall (bTail ?its46 ?lh46 ?lt46 ?ll46) rfl Tryz.call56 ztk rfl ?_
 case its46 => exact hs
 case lh46 => omega
 case lt46 => omega
 case ll46 => omega
 rintro v L' ⟨rfl, rfl⟩
 refine yas ?_
 refine ynil' (kthn (hK3 _ _ ?_))
 clear hK3
 refine cseq ?_; intro K4 hK4
 refine cdraw 6 [(0, true), (1, true), (2, true), (3, true), (4, true), (5, false)] ([sc b7 (recA ⟨w, k⟩) 101, sc A.p _ 84] ++ R) Tryz.mixed (by kernel_rfl) zge ?_
 refine hr rfl (ev_move rfl) rfl ?_
 refine hr rfl (ev_nil rfl) rfl ?_
 refine hr rfl (ev_fieldAddr 0 rfl Tryz.underlying84 rfl Tryz.sizeOf79) rfl ?_
 refine hr rfl (ev_load rfl Tryz.isAgg79 zin rfl) rfl ?_
 refine hr rfl (ev_loadN (u := recA ⟨w, k⟩) rfl Tryz.isAgg101 Tryz.sizeOf101 zin rfl rfl) rfl ?_
 refine hcall rfl (kBytes (bl := C.bl) ?bok53 ?bl53) rfl Tryz.call58 ztk rfl ?_
 case bok53 => exact hw
 case bl53 => omega
 rintro v L' ⟨rfl, rfl⟩; refine ⟨zge, ?_⟩
 refine hnil ?_
 refine ycall (bAppend ?lok54 ?its54) rfl Tryz.call57 ztk rfl ?_
 case lok54 => exact hC.l
 case its54 => exact hs
 rintro v L' ⟨sl24, rfl, ok24, rfl⟩
 obtain ⟨a, ha3⟩ : ∃ a, C.l.append D (recB (CrecM.rc ⟨w, k⟩)) = a := ⟨_, rfl⟩
 have hadd : C.add D ⟨w, k⟩ = (a.1, if a.1 = 0 then CaM.does { C with l := a.2.1 } ⟨w, k⟩ C.l.tail else { C with l := a.2.1 }, a.2.2) := by unfold CaM.add; rw [ha3]
 rw [ha3] at ok24 ⊢
 refine yas ?_
 refine hnoP' (kthn (hK4 _ _ ?_))
 clear hK4
 refine cseq ?_; intro K5 hK5
 refine cseq ?_; intro K6 hK6
 refine creg ?_
 refine ymv ?_
 refine y (ev_eql rfl rfl) rfl ?_
 refine ynil' (kthn (hK6 _ _ ?_))
 clear hK6
 refine ccond rfl (fun h58 => ?_) (fun h58 => ?_)
 ·(try simp only [sH] at h58)
  rw [if_pos h58] at hadd; obtain ⟨C1, hC1⟩ : ∃ C1, C1 = CaM.does { C with l := a.2.1 } ⟨w, k⟩ C.l.tail := ⟨_, rfl⟩; have hl : C1.l = a.2.1 := by rw [hC1]; exact (CaM.does_l _ _ _).1
  refine creg ?_
  refine ymv ?_
  refine y (ev_loadN (u := recA ⟨w, k⟩) rfl Tryz.isAgg101 Tryz.sizeOf101 zin rfl rfl) rfl ?_
  refine ymv ?_
  refine ycall (kDoes (C := { C with l := a.2.1 }) (r := ⟨w, k⟩) ?mok62) rfl Tryz.call49 ztk rfl ?_
  case mok62 => exact ⟨hC.m.e, hC.m.p⟩
  rintro v L' ⟨rfl, rfl⟩
  rw [← hC1]
  refine ynil' (kthn (hK5 _ _ ?_))
  clear hK5
  refine cseq ?_; intro K7 hK7
  refine creg ?_
  refine ymv ?_
  refine yas ?_
  refine ynil' (kthn (hK7 _ _ ?_))
  clear hK7
  refine cret ?_
  first
    | (exfalso; omega; done)
    | (refine kretv Tryz.results45 rfl (L1 := [caP A C1, enS A C1, puS A C1, logG A.lp A.lc q sl24 a.2.1, dev q a.2.2] ++ R) zge ?_
       rw [hadd, ← hC1]; exact ⟨_, ⟨sl24, rfl, by dsimp only; rw [hl]; exact ok24, by unfold lgS; dsimp only; rw [hl]⟩, rfl⟩)
    | (refine kretv Tryz.results45 rfl (L1 := [caP A { C with l := a.2.1 }, enS A { C with l := a.2.1 }, puS A { C with l := a.2.1 }, logG A.lp A.lc q sl24 a.2.1, dev q a.2.2] ++ R) zge ?_
       rw [hadd]; exact ⟨_, ⟨sl24, rfl, ok24, rfl⟩, rfl⟩)
 ·(try simp only [sH] at h58)
  rw [if_neg h58] at hadd
  refine cskip' (kthn (hK5 _ _ ?_))
  clear hK5
  refine cseq ?_; intro K8 hK8
  refine creg ?_
  refine ymv ?_
  refine yas ?_
  refine ynil' (kthn (hK8 _ _ ?_))
  clear hK8
  refine cret ?_
  first
    | (exfalso; omega; done)
    | (refine kretv Tryz.results45 rfl (L1 := [caP A C1, enS A C1, puS A C1, logG A.lp A.lc q sl24 a.2.1, dev q a.2.2] ++ R) zge ?_
       rw [hadd, ← hC1]; exact ⟨_, ⟨sl24, rfl, by dsimp only; rw [hl]; exact ok24, by unfold lgS; dsimp only; rw [hl]⟩, rfl⟩)
    | (refine kretv Tryz.results45 rfl (L1 := [caP A { C with l := a.2.1 }, enS A { C with l := a.2.1 }, puS A { C with l := a.2.1 }, logG A.lp A.lc q sl24 a.2.1, dev q a.2.2] ++ R) zge ?_
       rw [hadd]; exact ⟨_, ⟨sl24, rfl, ok24, rfl⟩, rfl⟩)
end W
end Go.Proofs
namespace Go.Proofs
open Go Go.Sl
namespace W
set_option linter.unusedVariables false
theorem kMake [Env] {R : List Seg} {A : CaA} {q : Q3} {sl0 : Sv} {C0 : CaM} {D0 : Dev} (hC0 : C0.ok D0) (hs0 : itOk sl0 C0.l) :
   Con Tryz.prog 55 [ptr A.p] [caP A C0, enS A C0, puS A C0, lgS A q sl0 C0, dev q D0] R (KC A q C0 (C0.make D0)) := by
 have hn0 := hC0.lim
 refine con_enter Tryz.func55 Tryz.ntmps55 rfl rfl ?_
 unfold lgS
 refine cseq ?_; intro K1 hK1
 refine creg ?_
 refine yas ?_
 refine ynil' (kthn (hK1 _ _ ?_))
 clear hK1
 refine cseq ?_; intro K2 hK2
 refine cseq ?_; intro K3 hK3
 refine creg ?_
 refine yas ?_
 refine ynil' (kthn (hK3 _ _ ?_))
 clear hK3
 have hJ1 : ∀ x : Nat × CaM × Dev × Sv, ((x.2.1.ok x.2.2.1 ∧ itOk x.2.2.2 x.2.1.l ∧ x.1 ≤ C0.n ∧ CaM.mkF (C0.n - x.1) x.2.1 x.2.2.1 = C0.make D0 ∧ x.2.1.n = C0.n) ∧ (C0.make D0 = (if x.2.1.free < 4 then 12 else 0, x.2.1, x.2.2.1))) → Sk 64 K2 ([(3, i64 x.1), (0, ptr A.p)]) ([caP A x.2.1, enS A x.2.1, puS A x.2.1, logG A.lp A.lc q x.2.2.2 x.2.1.l, dev q x.2.2.1] ++ R) := by
  rintro ⟨i, C, D, sl⟩ ⟨hI1, hX1⟩
  refine hK2 _ _ ?_
  obtain ⟨hC, hs, hi, hmk, hCn⟩ := hI1; dsimp only at hC hs hi hmk hCn ⊢; obtain ⟨hl1, hl2, hl3, hl4, hl5, hl6, hl7⟩ := hC.lim; have hht : C.l.head ≤ C.l.tail := (by unfold LogM.tail; omega); unfold caP caC
  dsimp only at hX1
  refine cseq ?_; intro K4 hK4
  refine cseq ?_; intro K5 hK5
  refine creg ?_
  refine ymv ?_
  refine yni ?_
  refine y (ev_fieldAddr 0 rfl Tryz.underlying84 rfl Tryz.sizeOf79) rfl ?_
  refine y (ev_load rfl Tryz.isAgg79 zin rfl) rfl ?_
  refine ycall (bFree ?its7 ?ln7 ?ll7) rfl Tryz.call71 ztk rfl ?_
  case its7 => exact hs
  case ln7 => omega
  case ll7 => omega
  rintro v L' ⟨rfl, rfl⟩
  refine y (ev_lss rfl rfl) rfl ?_
  refine ynil' (kthn (hK5 _ _ ?_))
  clear hK5
  refine ccond rfl (fun h9 => ?_) (fun h9 => ?_)
  ·(try simp only [sH] at h9)
   rw [if_pos (by unfold CaM.free; omega)] at hX1
   refine cseq ?_; intro K6 hK6
   refine creg ?_
   refine yas ?_
   refine ynil' (kthn (hK6 _ _ ?_))
   clear hK6
   refine cret (kthr ?_)
   first
     | (exfalso; omega; done)
     | (refine kretv Tryz.results55 rfl (L1 := [caP A C, enS A C, puS A C, logG A.lp A.lc q sl C.l, dev q D] ++ R) zge ?_
        rw [hX1]; exact ⟨_, ⟨sl, rfl, hs, rfl⟩, rfl⟩)
  ·(try simp only [sH] at h9)
   rw [if_neg (by unfold CaM.free; omega)] at hX1
   refine cskip' (kthn (hK4 _ _ ?_))
   clear hK4
   refine cseq ?_; intro K7 hK7
   refine creg ?_
   refine yas ?_
   refine ynil' (kthn (hK7 _ _ ?_))
   clear hK7
   refine cret ?_
   first
     | (exfalso; omega; done)
     | (refine kretv Tryz.results55 rfl (L1 := [caP A C, enS A C, puS A C, logG A.lp A.lc q sl C.l, dev q D] ++ R) zge ?_
        rw [hX1]; exact ⟨_, ⟨sl, rfl, hs, rfl⟩, rfl⟩)
 clear hK2
 refine cblock ?_
 refine cloop (A := Nat × CaM × Dev × Sv) (fun x => [(3, i64 x.1), (0, ptr A.p)]) (fun x => [caP A x.2.1, enS A x.2.1, puS A x.2.1, logG A.lp A.lc q x.2.2.2 x.2.1.l, dev q x.2.2.1] ++ R) (fun x => x.2.1.ok x.2.2.1 ∧ itOk x.2.2.2 x.2.1.l ∧ x.1 ≤ C0.n ∧ CaM.mkF (C0.n - x.1) x.2.1 x.2.2.1 = C0.make D0 ∧ x.2.1.n = C0.n) (fun x => C0.n - x.1) ((0, C0, D0, sl0)) ?_ zsub zge ?_
 · exact ⟨hC0, hs0, Nat.zero_le _, rfl, rfl⟩
 rintro ⟨i, C, D, sl⟩ hI1 KL1 hL1
 have hI1o := hI1
 obtain ⟨hC, hs, hi, hmk, hCn⟩ := hI1; dsimp only at hC hs hi hmk hCn ⊢; obtain ⟨hl1, hl2, hl3, hl4, hl5, hl6, hl7⟩ := hC.lim; have hht : C.l.head ≤ C.l.tail := (by unfold LogM.tail; omega); unfold caP caC
 refine cseq ?_; intro K8 hK8
 refine cseq ?_; intro K9 hK9
 refine creg ?_
 refine ymv ?_
 refine ymv ?_
 refine yni ?_
 refine y (ev_fieldAddr 2 rfl Tryz.underlying84 rfl Tryz.sizeOf3) rfl ?_
 refine y (ev_load rfl Tryz.isAgg3 zin rfl) rfl ?_
 refine y (ev_lss rfl rfl) rfl ?_
 refine ymv ?_
 refine ysplit 15 rfl (fun h19 => ?_) (fun h19 => ?_)
 ·(try simp only [sH] at h19)
  refine ygo ?_
  refine ymv ?_
  refine ygo ?_
  refine yni ?_
  refine ygo ?_
  refine y (ev_fieldAddr 0 rfl Tryz.underlying84 rfl Tryz.sizeOf79) rfl ?_
  refine ygo ?_
  refine y (ev_load rfl Tryz.isAgg79 zin rfl) rfl ?_
  refine ygo ?_
  refine ycall (bFree ?its24 ?ln24 ?ll24) rfl Tryz.call71 ztk rfl ?_
  case its24 => exact hs
  case ln24 => omega
  case ll24 => omega
  rintro v L' ⟨rfl, rfl⟩
  refine ygo ?_
  refine y (ev_lss rfl rfl) rfl ?_
  refine ypa ?_
  refine ynil' (kthn (hK9 _ _ ?_))
  clear hK9
  refine ccond rfl (fun h27 => ?_) (fun h27 => ?_)
  ·(try simp only [sH] at h27)
   have hstep : C0.make D0 = CaM.mkF ((C0.n - (i + 1)) + 1) C D := by rw [← hmk, show C0.n - i = (C0.n - (i + 1)) + 1 by omega]
   unfold CaM.mkF at hstep
   rw [if_neg (by unfold CaM.free; omega)] at hstep
   refine cskip' (kthn (hK8 _ _ ?_))
   clear hK8
   refine cseq ?_; intro K10 hK10
   refine cblock ?_
   refine cseq ?_; intro K11 hK11
   refine creg ?_
   refine ymv ?_
   refine yni ?_
   refine y (ev_fieldAddr 0 rfl Tryz.underlying84 rfl Tryz.sizeOf79) rfl ?_
   refine y (ev_load rfl Tryz.isAgg79 zin rfl) rfl ?_
   refine ycall (bHead) rfl Tryz.call50 ztk rfl ?_
   rintro v L' ⟨rfl, rfl⟩
   refine yas ?_
   refine ynil' (kthn (hK11 _ _ ?_))
   clear hK11
   refine cseq ?_; intro K12 hK12
   have hJr10 : ∀ x : CaM × Dev × Sv, (C.again D = (0, x.1, x.2.1) ∧ x.1.ok x.2.1 ∧ itOk x.2.2 x.1.l) → Sk 64 K12 ([(4, i64 C.l.head), (3, i64 i), (0, ptr A.p)]) ([caP A x.1, enS A x.1, puS A x.1, logG A.lp A.lc q x.2.2 x.1.l, dev q x.2.1] ++ R) := by
    rintro ⟨C1, D1, sl1⟩ hIr10
    refine hK12 _ _ ?_
    obtain ⟨hag, hC1, hs1⟩ := hIr10; dsimp only at hag hC1 hs1 ⊢; unfold caP caC; rw [hag, if_neg (by simp)] at hstep; dsimp only at hstep
    have hbl1 := CaM.again_bl (C := C) (D := D)
    rw [hag] at hbl1
    dsimp only at hbl1
    refine cseq ?_; intro K13 hK13
    refine creg ?_
    refine ymv ?_
    refine yni ?_
    refine y (ev_fieldAddr 0 rfl Tryz.underlying84 rfl Tryz.sizeOf79) rfl ?_
    refine y (ev_load rfl Tryz.isAgg79 zin rfl) rfl ?_
    refine ymv ?_
    refine y (ev_add rfl rfl) rfl ?_
    rw [wr (by omega) (by omega)]
    refine ycall (bTrim (L := C1.l) ?lok40 ?its40) rfl Tryz.call73 ztk rfl ?_
    case lok40 => exact hC1.l
    case its40 => exact hs1
    rintro v L' ⟨sl54, rfl, ok54, rfl⟩
    have hokT := hC1.cut (C.l.head + 1)
    have hct : C1.cut D1 (C.l.head + 1) = ((C1.l.trim D1 (C.l.head + 1)).1, { C1 with l := (C1.l.trim D1 (C.l.head + 1)).2.1 }, (C1.l.trim D1 (C.l.head + 1)).2.2) := rfl
    generalize C1.l.trim D1 (C.l.head + 1) = tr at *
    rw [hct] at hokT hstep
    dsimp only at hokT hstep
    refine yas ?_
    refine ynil' (kthn (hK13 _ _ ?_))
    clear hK13
    refine cseq ?_; intro K14 hK14
    refine creg ?_
    refine ymv ?_
    refine y (ev_neq rfl rfl) rfl ?_
    refine ynil' (kthn (hK14 _ _ ?_))
    clear hK14
    refine ccond rfl (fun h44 => ?_) (fun h44 => ?_)
    ·(try simp only [sH] at h44)
     rw [if_pos h44] at hstep
     refine cseq ?_; intro K15 hK15
     refine creg ?_
     refine ymv ?_
     refine yas ?_
     refine ynil' (kthn (hK15 _ _ ?_))
     clear hK15
     refine cret (kbr (kthr (kthr (kbr (kthr ?_)))))
     first
       | (exfalso; omega; done)
       | (refine kretv Tryz.results55 rfl (L1 := [caP A { C1 with l := tr.2.1 }, enS A { C1 with l := tr.2.1 }, puS A { C1 with l := tr.2.1 }, logG A.lp A.lc q sl54 tr.2.1, dev q tr.2.2] ++ R) zge ?_
          rw [hstep]; exact ⟨_, ⟨sl54, rfl, ok54, rfl⟩, rfl⟩)
    ·(try simp only [sH] at h44)
     rw [if_neg (fun hz => hz h44)] at hstep
     refine cskip' (kbn (kthn (hK10 _ _ ?_)))
     clear hK10
     refine creg ?_
     refine ymv ?_
     refine y (ev_add rfl rfl) rfl ?_
     rw [show IntKind.i64.wrap ((i:Int) + 1) = ((i+1 : Nat) : Int) by rw [wr (by omega) (by omega)]; rfl]
     refine yas ?_
     refine ynil' (kthn ?_)
     exact hL1 ((i + 1, { C1 with l := tr.2.1 }, tr.2.2, sl54)) (⟨hokT, ok54, by dsimp only; omega, hstep.symm, by dsimp only; omega⟩) (by dsimp only; omega) _ _ zsub zge
   clear hK12
   refine cseq ?_; intro K16 hK16
   refine creg ?_
   refine ymv ?_
   refine ycall (kNeeded (C := C) (sl := sl) (q := q) ?mok51 ?pn51) rfl Tryz.call72 ztk rfl ?_
   case mok51 => exact hC.m
   case pn51 => exact hC.pn
   rintro v L' ⟨rfl, rfl⟩
   rcases hnd : C.needed with _ | x0
   ·skip
    refine ymv ?_
    refine yxt ?_
    refine yxt ?_
    refine ya (ac_alloc Tryz.zeroValue34 rfl) rfl ?_
    rintro v L' ⟨b5, rfl, rfl⟩
    refine ya0 (ac_storeAll rfl rfl (ent_one _) Tryz.sizeOf34 zrp rfl rfl) ?_
    rintro v L' ⟨rfl, rfl⟩
    refine yas ?_
    refine ynil' (kthn (hK16 _ _ ?_))
    clear hK16
    refine cseq ?_; intro K17 hK17
    refine creg ?_
    refine ymv ?_
    refine ynil' (kthn (hK17 _ _ ?_))
    clear hK17
    refine ccond0 rfl ?_
    refine cskip' (kthn ?_)
    first | exact ksub zsub zge (hJr10 (C1, D1, sl44) hag1) | exact ksub zsub zge (hJr10 (C, D, sl) ⟨by unfold CaM.again; rw [hnd], hC, hs⟩)
   ·skip
    refine ymv ?_
    refine yxt ?_
    refine yxt ?_
    refine ya (ac_alloc Tryz.zeroValue34 rfl) rfl ?_
    rintro v L' ⟨b5, rfl, rfl⟩
    refine ya0 (ac_storeAll rfl rfl (ent_one _) Tryz.sizeOf34 zrp rfl rfl) ?_
    rintro v L' ⟨rfl, rfl⟩
    refine yas ?_
    refine ynil' (kthn (hK16 _ _ ?_))
    clear hK16
    refine cseq ?_; intro K18 hK18
    refine creg ?_
    refine ymv ?_
    refine ynil' (kthn (hK18 _ _ ?_))
    clear hK18
    refine ccond1 rfl ?_
    refine cseq ?_; intro K19 hK19
    refine cdraw 8 [(0, true), (1, true), (2, true), (3, true), (4, true), (5, true), (6, true), (7, true)] (_) Tryz.mixed (by kernel_rfl) .refl ?_
    refine hr rfl (ev_move rfl) rfl ?_
    refine hr rfl (ev_loadN (u := [i64 x0.blk, i64 x0.ve, i64 x0.vs, str x0.data, .bool x0.dirty, i64 x0.cl, i64 x0.n]) rfl Tryz.isAgg34 Tryz.sizeOf34 zin rfl rfl) rfl ?_
    refine hr rfl (ev_build (zs := _) rfl Tryz.underlying89 Tryz.zeroValue89 rfl (.cons Tryz.sizeOf34 .nil) ⟨⟨_, _, rfl, (by first | rfl | simp), (by first | decide | simp)⟩, trivial⟩ (by dsimp [fillL, splice, vcells] <;> rfl)) rfl ?_
    refine hr rfl (ev_iface rfl (by kernel_rfl)) rfl ?_
    refine hr rfl (ev_move rfl) rfl ?_
    refine hr rfl (ev_nil rfl) rfl ?_
    refine hr rfl (ev_fieldAddr 5 rfl Tryz.underlying84 rfl Tryz.sizeOf82) rfl ?_
    refine hr rfl (ev_loadN (u := [i64 C.k.e, i64 C.k.s, i64 C.k.t.a, i64 C.k.t.b, i64 C.k.t.c, i64 C.k.t.d]) rfl Tryz.isAgg82 Tryz.sizeOf82 zin rfl rfl) rfl ?_
    refine hnil ?_
    refine ycall (kAdd (C := C) (sl := sl) (q := q) (D := D) (w := .put x0) (k := C.k) ?cok74 ?its74 ?rok74) rfl Tryz.call45 ztk rfl ?_
    case cok74 => exact hC
    case its74 => exact hs
    case rok74 => exact ⟨(hC.need hnd).1, hC.k⟩
    rintro v L' ⟨sl44, rfl, ok44, rfl⟩
    have hag : C.again D = C.add D ⟨.put x0, C.k⟩ := by unfold CaM.again; rw [hnd]
    have hokA := hC.again
    rw [hag] at hokA
    obtain ⟨a, ha7⟩ : ∃ a, C.add D ⟨.put x0, C.k⟩ = a := ⟨_, rfl⟩
    rw [ha7] at hag ok44 hokA ⊢
    obtain ⟨e7, C1, D1⟩ := a
    dsimp only at ok44 hokA ⊢
    unfold lgS
    refine yas ?_
    refine hnoP' (kthn (hK19 _ _ ?_))
    clear hK19
    refine cseq ?_; intro K20 hK20
    refine creg ?_
    refine ymv ?_
    refine y (ev_neq rfl rfl) rfl ?_
    refine ynil' (kthn (hK20 _ _ ?_))
    clear hK20
    refine ccond rfl (fun h78 => ?_) (fun h78 => ?_)
    ·(try simp only [sH] at h78)
     rw [hag, if_pos h78] at hstep
     refine cseq ?_; intro K21 hK21
     refine creg ?_
     refine ymv ?_
     refine yas ?_
     refine ynil' (kthn (hK21 _ _ ?_))
     clear hK21
     refine cret (kthr (kbr (kthr (kthr (kbr (kthr ?_))))))
     first
       | (exfalso; omega; done)
       | (refine kretv Tryz.results55 rfl (L1 := [caP A C1, enS A C1, puS A C1, logG A.lp A.lc q sl44 C1.l, dev q D1] ++ R) zge ?_
          rw [hstep]; exact ⟨_, ⟨sl44, rfl, ok44, rfl⟩, rfl⟩)
    ·(try simp only [sH] at h78)
     have hag1 : C.again D = (0, C1, D1) ∧ C1.ok D1 ∧ itOk sl44 C1.l := ⟨by rw [hag, h78], hokA, ok44⟩
     refine cskip' (kthn ?_)
     first | exact ksub zsub zge (hJr10 (C1, D1, sl44) hag1) | exact ksub zsub zge (hJr10 (C, D, sl) ⟨by unfold CaM.again; rw [hnd], hC, hs⟩)
  ·(try simp only [sH] at h27)
   have hout : C0.make D0 = (if C.free < 4 then 12 else 0, C, D) := by rw [← hmk, show C0.n - i = (C0.n - i - 1) + 1 by omega]; unfold CaM.mkF; rw [if_pos (by unfold CaM.free; omega), if_neg (by unfold CaM.free; omega)]
   refine cexit (kthx (kthx (kbx (kthn ?_))))
   exact ksub zsub zge (hJ1 ⟨i, C, D, sl⟩ ⟨hI1o, hout⟩)
 ·(try simp only [sH] at h19)
  have hout : C0.make D0 = (if C.free < 4 then 12 else 0, C, D) := by rw [← hmk, show C0.n - i = 0 by omega]; rfl
  refine ygz ?_
  refine ygz ?_
  refine ygz ?_
  refine ygz ?_
  refine ygz ?_
  refine ygz ?_
  refine ypb ?_
  refine ynil' (kthn (hK9 _ _ ?_))
  clear hK9
  refine ccond0 rfl ?_
  refine cexit (kthx (kthx (kbx (kthn ?_))))
  exact ksub zsub zge (hJ1 ⟨i, C, D, sl⟩ ⟨hI1o, hout⟩)
end W
end Go.Proofs
