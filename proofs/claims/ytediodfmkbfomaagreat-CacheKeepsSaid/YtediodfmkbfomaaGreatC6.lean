/- A part of the proof: contracts and plain lemmas, each without conditions beyond those that it names. -/
import Derived.Test.YtediodfmkbfomaaGreatC5
import Derived.Test.YtediodfmkbfomaaGreatGN
set_option linter.unusedVariables false
set_option linter.unusedSimpArgs false
set_option linter.constructorNameAsVariable false
namespace Go.Proofs
open Go Go.Sl
namespace W
set_option linter.unusedVariables false
theorem ent_one (x : EntM) : ∀ u ∈ [i64 x.blk, i64 x.ve, i64 x.vs, str x.data, .bool x.dirty, i64 x.cl, i64 x.n], u.oneCell' = true := by
 intro u hu
 simp only [List.mem_cons, List.not_mem_nil, or_false] at hu
 rcases hu with rfl | rfl | rfl | rfl | rfl | rfl | rfl <;> rfl
theorem lk_entV (o : Option EntM) : (o.map entV).getD (entV .zero) = entV (o.getD .zero) := by cases o <;> rfl
theorem vcells_val (w : WhatM) : vcells (WhatM.val w) = [WhatM.val w] := by cases w <;> rfl
def lgS (A : CaA) (q : Q3) (sl : Sv) (C : CaM) : Seg := logG A.lp A.lc q sl C.l
theorem kGet [Env] {R : List Seg} {A : CaA} {C : CaM} {b : Int} : Con Tryz.prog 15 [ptr A.p, i64 b] [caP A C, enS A C] R (Is (.tuple #[entV ((aget C.en b).getD .zero), .bool (aget C.en b).isSome]) [caP A C, enS A C]) := by
 refine con_enter Tryz.func15 Tryz.ntmps15 rfl rfl ?_
 unfold caP caC enS
 refine cseq ?_; intro K1 hK1
 refine creg ?_
 refine ya (ac_alloc Tryz.zeroValue34 rfl) rfl ?_
 rintro v L' ⟨b4, rfl, rfl⟩
 refine yas ?_
 refine ynil' (kthn (hK1 _ _ ?_))
 clear hK1
 refine cseq ?_; intro K2 hK2
 refine creg ?_
 refine ymv ?_
 refine yni ?_
 refine y (ev_fieldAddr 3 rfl Tryz.underlying84 rfl Tryz.sizeOf29) rfl ?_
 refine y (ev_load rfl Tryz.isAgg29 zin rfl) rfl ?_
 refine ymv ?_
 refine y (ev_lookup2 (z := entV .zero) (kv := akv entV C.en) rfl rfl Tryz.underlying29 Tryz.underlying3 Tryz.zeroValue34 zin) rfl ?_
 rw [akv_get, lk_entV, Option.isSome_map]
 refine ymv ?_
 refine yxt ?_
 refine yxt ?_
 refine ya (ac_alloc Tryz.zeroValue34 rfl) rfl ?_
 rintro v L' ⟨b6, rfl, rfl⟩
 refine ya0 (ac_storeAll rfl rfl (ent_one _) Tryz.sizeOf34 zrp rfl rfl) ?_
 rintro v L' ⟨rfl, rfl⟩
 refine yas ?_
 refine ynil' (kthn (hK2 _ _ ?_))
 clear hK2
 refine cseq ?_; intro K3 hK3
 refine creg ?_
 refine y (ev_loadN (u := [i64 ((aget C.en b).getD .zero).blk, i64 ((aget C.en b).getD .zero).ve, i64 ((aget C.en b).getD .zero).vs, str ((aget C.en b).getD .zero).data, .bool ((aget C.en b).getD .zero).dirty, i64 ((aget C.en b).getD .zero).cl, i64 ((aget C.en b).getD .zero).n]) rfl Tryz.isAgg34 Tryz.sizeOf34 zin rfl rfl) rfl ?_
 refine ymv ?_
 refine ya0 (ac_storeAll rfl rfl (ent_one _) Tryz.sizeOf34 zrp rfl rfl) ?_
 rintro v L' ⟨rfl, rfl⟩
 refine yas ?_
 refine ynil' (kthn (hK3 _ _ ?_))
 clear hK3
 refine cret ?_
 first
   | (exfalso; omega; done)
   | (refine kretct Tryz.results15 rfl rfl Tryz.isAgg34 Tryz.sizeOf34 zin (rfl) (L1 := [sc A.p _ 84, so A.me _] ++ R) zge ?_
      exact ⟨_, ⟨by rfl, rfl⟩, by rfl⟩)
theorem kLast [Env] {R : List Seg} {A : CaA} {C : CaM} : Con Tryz.prog 19 [ptr A.p] [caP A C] R (Is (.agg #[i64 C.k.e, i64 C.k.s]) [caP A C]) := by
 refine con_enter Tryz.func19 Tryz.ntmps19 rfl rfl ?_
 unfold caP caC
 refine cseq ?_; intro K1 hK1
 refine creg ?_
 refine ya (ac_alloc Tryz.zeroValue31 rfl) rfl ?_
 rintro v L' ⟨b2, rfl, rfl⟩
 refine ynil' (kthn (hK1 _ _ ?_))
 clear hK1
 refine cseq ?_; intro K2 hK2
 refine creg ?_
 refine ymv ?_
 refine yni ?_
 refine y (ev_fieldAddr 5 rfl Tryz.underlying84 rfl Tryz.sizeOf82) rfl ?_
 refine y (ev_fieldAddr 0 rfl Tryz.underlying82 rfl Tryz.sizeOf31) rfl ?_
 refine y (ev_loadN (u := [i64 C.k.e, i64 C.k.s]) rfl Tryz.isAgg31 Tryz.sizeOf31 zin rfl rfl) rfl ?_
 refine ya0 (ac_storeAll rfl rfl (by first | exact bytesV_one _ | (simp [Value.oneCell']; done) | (simp only [List.forall_mem_cons, List.not_mem_nil, false_implies, implies_true, svVal_one, and_true, true_and, and_self]; first | done | simp [Value.oneCell'])) Tryz.sizeOf31 zrp (by first | rfl | assumption | (simp [*]; done) | (simp [*]; omega)) (by first | rfl | assumption | (simp [*]; done) | (simp [*]; omega))) ?_
 rintro v L' ⟨rfl, rfl⟩
 refine ynil' (kthn (hK2 _ _ ?_))
 clear hK2
 refine cret ?_
 first
   | (exfalso; omega; done)
   | (refine kretc Tryz.results19 rfl Tryz.isAgg31 Tryz.sizeOf31 zin (rfl) (L1 := [sc A.p _ 84] ++ R) zge ?_
      exact ⟨_, ⟨by rfl, rfl⟩, by rfl⟩)
theorem kRoom [Env] {R : List Seg} {A : CaA} {C : CaM} (hn : C.n ≤ 512) : Con Tryz.prog 14 [ptr A.p] [caP A C] R (Is (i64 ((C.n : Int) - 6)) [caP A C]) := by
 refine con_enter Tryz.func14 Tryz.ntmps14 rfl rfl ?_
 unfold caP caC
 refine cseq ?_; intro K1 hK1
 refine creg ?_
 refine yas ?_
 refine ynil' (kthn (hK1 _ _ ?_))
 clear hK1
 refine cseq ?_; intro K2 hK2
 refine creg ?_
 refine ymv ?_
 refine yni ?_
 refine y (ev_fieldAddr 2 rfl Tryz.underlying84 rfl Tryz.sizeOf3) rfl ?_
 refine y (ev_load rfl Tryz.isAgg3 zin rfl) rfl ?_
 refine y (ev_sub rfl rfl) rfl ?_
 rw [wr (by omega) (by omega)]
 refine yas ?_
 refine ynil' (kthn (hK2 _ _ ?_))
 clear hK2
 refine cret ?_
 first
   | (exfalso; omega; done)
   | (refine kretv Tryz.results14 rfl (L1 := [sc A.p _ 84] ++ R) zge ?_
      exact ⟨_, ⟨by rfl, rfl⟩, by rfl⟩)
theorem kNumber [Env] {R : List Seg} {A : CaA} {C : CaM} {i : Int} : Con Tryz.prog 18 [ptr A.p, i64 i] [caP A C] R (Is (i64 (numC C.k i)) [caP A C]) := by
 refine con_enter Tryz.func18 Tryz.ntmps18 rfl rfl ?_
 unfold caP caC
 refine cseq ?_; intro K1 hK1
 refine creg ?_
 refine yas ?_
 refine ynil' (kthn (hK1 _ _ ?_))
 clear hK1
 refine cseq ?_; intro K2 hK2
 refine cseq ?_; intro K3 hK3
 refine creg ?_
 refine ymv ?_
 refine y (ev_lss rfl rfl) rfl ?_
 refine ymv ?_
 refine ysplit 7 rfl (fun h37 => ?_) (fun h37 => ?_)
 ·(try simp only [sH] at h37)
  refine ygz ?_
  refine ygz ?_
  refine ypa ?_
  refine ynil' (kthn (hK3 _ _ ?_))
  clear hK3
  refine ccond1 rfl ?_
  refine cseq ?_; intro K4 hK4
  refine creg ?_
  refine yas ?_
  refine ynil' (kthn (hK4 _ _ ?_))
  clear hK4
  refine cret (kthr ?_)
  first
    | (exfalso; omega; done)
    | (refine kretv Tryz.results18 rfl (L1 := [sc A.p _ 84] ++ R) zge ?_
       exact ⟨_, ⟨by first | rfl | (unfold numC; rw [if_pos (by omega)]), rfl⟩, by first | rfl | (unfold numC; rw [if_pos (by omega)])⟩)
 ·(try simp only [sH] at h37)
  refine ygo ?_
  refine ymv ?_
  refine ygo ?_
  refine y (ev_geq rfl rfl) rfl ?_
  refine ypb ?_
  refine ynil' (kthn (hK3 _ _ ?_))
  clear hK3
  refine ccond rfl (fun h43 => ?_) (fun h43 => ?_)
  ·(try simp only [sH] at h43)
   refine cseq ?_; intro K5 hK5
   refine creg ?_
   refine yas ?_
   refine ynil' (kthn (hK5 _ _ ?_))
   clear hK5
   refine cret (kthr ?_)
   first
     | (exfalso; omega; done)
     | (refine kretv Tryz.results18 rfl (L1 := [sc A.p _ 84] ++ R) zge ?_
        exact ⟨_, ⟨by first | rfl | (unfold numC; rw [if_pos (by omega)]), rfl⟩, by first | rfl | (unfold numC; rw [if_pos (by omega)])⟩)
  ·(try simp only [sH] at h43)
   refine cskip' (kthn (hK2 _ _ ?_))
   clear hK2
   refine cseq ?_; intro K6 hK6
   refine creg ?_
   have hi4 : i = 0 ∨ i = 1 ∨ i = 2 ∨ i = 3 := by omega
   refine ymv ?_
   refine ymv ?_
   refine yni ?_
   refine y (ev_fieldAddr 5 rfl Tryz.underlying84 rfl Tryz.sizeOf82) rfl ?_
   refine y (ev_fieldAddr 2 rfl Tryz.underlying82 rfl Tryz.sizeOf48) rfl ?_
   refine y (ev_ixAddrA rfl rfl Tryz.underlying48 Tryz.sizeOf2 (by omega) (by omega)) rfl ?_
   refine y (ev_load (v := i64 (numC C.k i)) rfl Tryz.isAgg2 zin (by rcases hi4 with rfl | rfl | rfl | rfl <;> rfl)) rfl ?_
   refine yas ?_
   refine ynil' (kthn (hK6 _ _ ?_))
   clear hK6
   refine cret ?_
   first
     | (exfalso; omega; done)
     | (refine kretv Tryz.results18 rfl (L1 := [sc A.p _ 84] ++ R) zge ?_
        exact ⟨_, ⟨by first | rfl | (unfold numC; rw [if_pos (by omega)]), rfl⟩, by first | rfl | (unfold numC; rw [if_pos (by omega)])⟩)
theorem kAll [Env] {R : List Seg} {A : CaA} {C : CaM} (hb : C.bl ≤ 32) : Con Tryz.prog 17 [ptr A.p] [caP A C, enS A C] R (KSv 34 C.all.length 7 (entsV C.all) [caP A C, enS A C]) := by
 refine con_enter Tryz.func17 Tryz.ntmps17 rfl rfl ?_
 unfold caP caC enS
 refine cseq ?_; intro K1 hK1
 refine creg ?_
 refine yas ?_
 refine ynil' (kthn (hK1 _ _ ?_))
 clear hK1
 refine cseq ?_; intro K2 hK2
 refine creg ?_
 refine yas ?_
 refine ynil' (kthn (hK2 _ _ ?_))
 clear hK2
 refine cseq ?_; intro K3 hK3
 refine cseq ?_; intro K4 hK4
 refine creg ?_
 refine ymv ?_
 refine yni ?_
 refine y (ev_fieldAddr 1 rfl Tryz.underlying84 rfl Tryz.sizeOf3) rfl ?_
 refine y (ev_load rfl Tryz.isAgg3 zin rfl) rfl ?_
 refine ymv ?_
 refine ynil' (kthn (hK4 _ _ ?_))
 clear hK4
 have hJ1 : ∀ x : Nat × Sv, ((svOk x.2 (allTo C x.1).length 7 (entsV (allTo C x.1)) ∧ x.1 ≤ C.bl) ∧ (x.1 = C.bl)) → Sk 30 K3 ([(11, i64 x.1), (10, i64 C.bl), (3, svVal x.2 (allTo C x.1).length), (0, ptr A.p)]) ([svSeg x.2 34 (entsV (allTo C x.1)), sc A.p (caC A C) 84, so A.me (.map (ents (akv entV C.en)) C.ce)] ++ R) := by
  rintro ⟨k, s⟩ ⟨hI1, hX1⟩
  refine hK3 _ _ ?_
  obtain ⟨ok, hk⟩ := hI1; dsimp only at ok hk ⊢; unfold caC; have hal := allTo_len C k; have hsu := allTo_succ C k
  dsimp only at hX1; subst hX1
  refine cseq ?_; intro K5 hK5
  refine creg ?_
  refine ymv ?_
  refine yas ?_
  refine ynil' (kthn (hK5 _ _ ?_))
  clear hK5
  refine cret ?_
  first
    | (exfalso; omega; done)
    | (refine kretv Tryz.results17 rfl (L1 := [svSeg _ _ _, sc A.p _ 84, so A.me _] ++ R) zge ?_
       exact ⟨_, ⟨s, rfl, ok, rfl⟩, rfl⟩)
 clear hK3
 refine cblock ?_
 refine cloop (A := Nat × Sv) (fun x => [(11, i64 x.1), (10, i64 C.bl), (3, svVal x.2 (allTo C x.1).length), (0, ptr A.p)]) (fun x => [svSeg x.2 34 (entsV (allTo C x.1)), sc A.p (caC A C) 84, so A.me (.map (ents (akv entV C.en)) C.ce)] ++ R) (fun x => svOk x.2 (allTo C x.1).length 7 (entsV (allTo C x.1)) ∧ x.1 ≤ C.bl) (fun x => C.bl - x.1) ((0, none)) ?_ zsub zge ?_
 · exact ⟨⟨rfl, rfl⟩, Nat.zero_le _⟩
 rintro ⟨k, s⟩ hI1 KL1 hL1
 have hI1o := hI1
 obtain ⟨ok, hk⟩ := hI1; dsimp only at ok hk ⊢; unfold caC; have hal := allTo_len C k; have hsu := allTo_succ C k
 refine cseq ?_; intro K6 hK6
 refine creg ?_
 refine y (ev_lss rfl rfl) rfl ?_
 refine ynil' (kthn (hK6 _ _ ?_))
 clear hK6
 refine cseq ?_; intro K7 hK7
 refine ccond rfl (fun h63 => ?_) (fun h63 => ?_)
 ·(try simp only [sH] at h63)
  refine cskip' (kthn (hK7 _ _ ?_))
  clear hK7
  refine cseq ?_; intro K8 hK8
  refine cblock ?_
  refine cseq ?_; intro K9 hK9
  refine creg ?_
  refine ymv ?_
  refine yas ?_
  refine ynil' (kthn (hK9 _ _ ?_))
  clear hK9
  refine cseq ?_; intro K10 hK10
  refine creg ?_
  refine ymv ?_
  refine yni ?_
  refine y (ev_fieldAddr 3 rfl Tryz.underlying84 rfl Tryz.sizeOf29) rfl ?_
  refine y (ev_load rfl Tryz.isAgg29 zin rfl) rfl ?_
  refine ymv ?_
  refine y (ev_lookup2 (z := entV .zero) (kv := akv entV C.en) rfl rfl Tryz.underlying29 Tryz.underlying3 Tryz.zeroValue34 zin) rfl ?_
  rw [akv_get, lk_entV, Option.isSome_map]
  rcases hg : aget C.en (k : Nat) with _ | x0
  ·skip
   refine ymv ?_
   refine yxt ?_
   refine yxt ?_
   refine ya (ac_alloc Tryz.zeroValue34 rfl) rfl ?_
   rintro v L' ⟨b5, rfl, rfl⟩
   refine ya0 (ac_storeAll rfl rfl (ent_one _) Tryz.sizeOf34 zrp rfl rfl) ?_
   rintro v L' ⟨rfl, rfl⟩
   refine yas ?_
   refine ynil' (kthn (hK10 _ _ ?_))
   clear hK10
   refine cseq ?_; intro K11 hK11
   refine creg ?_
   rw [hg] at hsu; dsimp only at hsu
   refine ymv ?_
   refine ynil' (kthn (hK11 _ _ ?_))
   clear hK11
   refine ccond0 rfl ?_
   refine cskip' (kbn (kthn (hK8 _ _ ?_)))
   clear hK8
   refine creg ?_
   refine y (ev_add rfl rfl) rfl ?_
   rw [show IntKind.i64.wrap ((k:Int) + 1) = ((k+1 : Nat) : Int) by rw [wr (by omega) (by omega)]; rfl]
   refine ymv ?_
   refine ynil' (kthn ?_)
   first | exact hL1 (k + 1, s27) ⟨ok27, by dsimp only; omega⟩ (by dsimp only; omega) _ _ zsub zge | (rw [← hsu] at ok ⊢; exact hL1 (k + 1, s) ⟨ok, by dsimp only; omega⟩ (by dsimp only; omega) _ _ zsub zge)
  ·skip
   refine ymv ?_
   refine yxt ?_
   refine yxt ?_
   refine ya (ac_alloc Tryz.zeroValue34 rfl) rfl ?_
   rintro v L' ⟨b5, rfl, rfl⟩
   refine ya0 (ac_storeAll rfl rfl (ent_one _) Tryz.sizeOf34 zrp rfl rfl) ?_
   rintro v L' ⟨rfl, rfl⟩
   refine yas ?_
   refine ynil' (kthn (hK10 _ _ ?_))
   clear hK10
   refine cseq ?_; intro K12 hK12
   refine creg ?_
   rw [hg] at hsu; dsimp only at hsu
   refine ymv ?_
   refine ynil' (kthn (hK12 _ _ ?_))
   clear hK12
   refine ccond1 rfl ?_
   refine creg ?_
   refine ymv ?_
   refine y (ev_loadN (u := [i64 x0.blk, i64 x0.ve, i64 x0.vs, str x0.data, .bool x0.dirty, i64 x0.cl, i64 x0.n]) rfl Tryz.isAgg34 Tryz.sizeOf34 zin rfl rfl) rfl ?_
   refine ya (ac_bsliceR rfl Tryz.underlying41 Tryz.sizeOf34 Tryz.zeroValue34 rfl rfl rfl rfl ⟨⟨_, _, rfl, (by first | rfl | simp), (by first | decide | simp)⟩, trivial⟩ (by dsimp [fillL, splice, vcells, reps] <;> rfl)) rfl ?_
   rintro v L' ⟨b26, rfl, rfl⟩
   refine ya (ac_append (s := s) (xs := entsV (allTo C k)) (m := (allTo C k).length) (k := 1) (us := x0.cells) (size := 7) rfl rfl (by repeat first | exact .z | apply Pk.s) Tryz.underlying41 Tryz.underlying41 (by intro q hq; cases hq) Tryz.typeInfo34 rfl rfl rfl ?ok91 ?src91 ?one91 ?big91) rfl ?_
   case ok91 => exact ok
   case src91 => exact src_at zin rfl rfl
   case one91 => exact ent_one x0
   case big91 => show (_ + _) * 65 ≤ _; omega
   rintro v L' ⟨s27, rfl, ok27, rfl⟩
   rw [← entsV_snoc, show (allTo C k).length + 1 = (allTo C k ++ [x0]).length by simp, ← hsu] at ok27 ⊢
   refine yas ?_
   refine ynil' (kbn (kthn (hK8 _ _ ?_)))
   clear hK8
   refine creg ?_
   refine y (ev_add rfl rfl) rfl ?_
   rw [show IntKind.i64.wrap ((k:Int) + 1) = ((k+1 : Nat) : Int) by rw [wr (by omega) (by omega)]; rfl]
   refine ymv ?_
   refine ynil' (kthn ?_)
   first | exact hL1 (k + 1, s27) ⟨ok27, by dsimp only; omega⟩ (by dsimp only; omega) _ _ zsub zge | (rw [← hsu] at ok ⊢; exact hL1 (k + 1, s) ⟨ok, by dsimp only; omega⟩ (by dsimp only; omega) _ _ zsub zge)
 ·(try simp only [sH] at h63)
  refine cexit (kthx (kthx (kbx (kthn ?_))))
  exact ksub zsub zge (hJ1 ⟨k, s⟩ ⟨hI1o, by dsimp only; omega⟩)
end W
end Go.Proofs
