/- A part of the proof: contracts and plain lemmas, each without conditions beyond those that it names. -/
import Derived.Test.YtebijajimmjknaaGreatB4
set_option linter.unusedVariables false
set_option linter.unusedSimpArgs false
set_option linter.constructorNameAsVariable false
namespace Go.Proofs
open Go Go.Sl
namespace W
set_option linter.unusedVariables false
theorem tab4 {l : List Int} (h : l.length = 4) : intsV l = [i64 (l.getD 0 0), i64 (l.getD 1 0), i64 (l.getD 2 0), i64 (l.getD 3 0)] := by
 match l, h with
 | [a, b, c, d], _ => rfl
theorem store_tok (S : StoM) (D : Dev) (m : MsgM) : (S.store D m).2.1.tok = S.tok := by
 unfold StoM.store
 split
 · rfl
 · split
   · rfl
   · split <;> rfl
theorem bTake [Env] {R : List Seg} {s t : Nat} {ps : List Nat} {q : Q3} {S : StoM} {D : Dev} {m : MsgM} (hS : S.ok D ps) :
   Con Tryz.prog 32 [ptr s, .agg m.cells.toArray] [stoP s t ps S, celP t q S.tok, celsP ps q S.cs, dev q D] R
     (Is (.tuple #[.agg (S.take D m).1.1.cells.toArray, .bool (S.take D m).1.2]) [stoP s t ps (S.take D m).2.1, celP t q (S.take D m).2.1.tok, celsP ps q (S.take D m).2.1.cs, dev q (S.take D m).2.2]) := by
 refine con_enter Tryz.func32 Tryz.ntmps32 rfl rfl ?_
 refine cseq ?_; intro K1 hK1
 refine creg ?_
 refine ya (ac_box (vs := m.cells) rfl rfl) rfl ?_
 rintro v L' ⟨b3, rfl, rfl⟩
 refine ya (ac_alloc Tryz.zeroValue37 rfl) rfl ?_
 rintro v L' ⟨b4, rfl, rfl⟩
 refine yas ?_
 refine ynil' (kthn (hK1 _ _ ?_))
 clear hK1
 refine cseq ?_; intro K2 hK2
 have hJr3 : ∀ x : Unit, (m.may = true ∧ (m.kind = 10 ∨ m.kind = 12)) → Sk 91 K2 ([(0, ptr s), (3, ptr b3), (4, ptr b4), (5, .bool false)]) ([sc b4 MsgM.zero.cells 37, sc b3 m.cells 37, stoP s t ps S, celP t q S.tok, celsP ps q S.cs, dev q D] ++ R) := by
  rintro x hIr3
  refine hK2 _ _ ?_
  obtain ⟨hmay, hk⟩ := hIr3
  have hmok := MsgM.ok_of hmay
  have hbad : ¬ ((m.kind ≠ 10 ∧ m.kind ≠ 12) ∨ m.may = false) := by rw [hmay]; simp; omega
  refine cseq ?_; intro K3 hK3
  refine creg ?_
  refine y (ev_fieldAddr 1 rfl Tryz.underlying37 rfl Tryz.sizeOf2) rfl ?_
  refine y (ev_load rfl Tryz.isAgg2 zin rfl) rfl ?_
  refine y (ev_fieldAddr 2 rfl Tryz.underlying37 rfl Tryz.sizeOf2) rfl ?_
  refine y (ev_load rfl Tryz.isAgg2 zin rfl) rfl ?_
  refine y (ev_fieldAddr 3 rfl Tryz.underlying37 rfl Tryz.sizeOf2) rfl ?_
  refine y (ev_load rfl Tryz.isAgg2 zin rfl) rfl ?_
  refine y (ev_fieldAddr 4 rfl Tryz.underlying37 rfl Tryz.sizeOf3) rfl ?_
  refine y (ev_load rfl Tryz.isAgg3 zin rfl) rfl ?_
  refine y (ev_build (vs := [i64 11, i64 m.epoch, i64 m.seq, i64 m.n, i64 m.block, i64 (-1), i64 0, i64 0, i64 0, i64 0, i64 0, str [], str []]) (zs := _) rfl Tryz.underlying37 Tryz.zeroValue37 rfl (.cons Tryz.sizeOf3 (.cons Tryz.sizeOf2 (.cons Tryz.sizeOf2 (.cons Tryz.sizeOf2 (.cons Tryz.sizeOf3 (.cons Tryz.sizeOf3 (.cons Tryz.sizeOf29 (.cons Tryz.sizeOf35 (.cons Tryz.sizeOf9 (.cons Tryz.sizeOf9 .nil)))))))))) ⟨⟨_, _, rfl, (by first | rfl | simp), (by first | decide | simp)⟩, ⟨⟨_, _, rfl, (by first | rfl | simp), (by first | decide | simp)⟩, ⟨⟨_, _, rfl, (by first | rfl | simp), (by first | decide | simp)⟩, ⟨⟨_, _, rfl, (by first | rfl | simp), (by first | decide | simp)⟩, ⟨⟨_, _, rfl, (by first | rfl | simp), (by first | decide | simp)⟩, ⟨⟨_, _, rfl, (by first | rfl | simp), (by first | decide | simp)⟩, trivial⟩⟩⟩⟩⟩⟩ (by dsimp [fillL, splice, vcells] <;> rfl)) rfl ?_
  refine ya (ac_alloc Tryz.zeroValue37 rfl) rfl ?_
  rintro v L' ⟨b6, rfl, rfl⟩
  refine ya0 (ac_storeAll rfl rfl (by first | exact bytesV_one _ | (simp [Value.oneCell']; done) | (simp only [List.forall_mem_cons, List.not_mem_nil, false_implies, implies_true, svVal_one, and_true, true_and, and_self]; first | done | simp [Value.oneCell'])) Tryz.sizeOf37 zrp (by first | rfl | assumption | (simp [*]; done) | (simp [*]; omega)) (by first | rfl | assumption | (simp [*]; done) | (simp [*]; omega))) ?_
  rintro v L' ⟨rfl, rfl⟩
  refine ynil' (kthn (hK3 _ _ ?_))
  clear hK3
  refine cseq ?_; intro K4 hK4
  have hJr6 : ∀ x : Unit, (True) → Sk 91 K4 ([(0, ptr s), (3, ptr b3), (4, ptr b4), (5, .bool false), (6, ptr b6)]) ([sc b6 (outM13 m 0 [] []).cells 37, sc b4 MsgM.zero.cells 37, sc b3 m.cells 37, stoP s t ps S, celP t q S.tok, celsP ps q S.cs, dev q D] ++ R) := by
   rintro x hIr6
   refine hK4 _ _ ?_
   refine cseq ?_; intro K5 hK5
   have hJr17 : ∀ x : MsgM × StoM × Dev, (S.take D m = (if x.1.e = 30 then (.zero, false) else (x.1, true), x.2)) → Sk 91 K5 ([(0, ptr s), (3, ptr b3), (4, ptr b4), (5, .bool false), (6, ptr b6)]) ([sc b6 x.1.cells 37, sc b4 MsgM.zero.cells 37, sc b3 m.cells 37, stoP s t ps x.2.1, celP t q x.2.1.tok, celsP ps q x.2.1.cs, dev q x.2.2] ++ R) := by
    rintro ⟨o, S2, D2⟩ hIr17
    refine hK5 _ _ ?_
    have htk := hIr17; dsimp only at htk ⊢
    refine cseq ?_; intro K6 hK6
    refine cseq ?_; intro K7 hK7
    refine creg ?_
    refine y (ev_fieldAddr 6 rfl Tryz.underlying37 rfl Tryz.sizeOf29) rfl ?_
    refine y (ev_load rfl Tryz.isAgg29 zin rfl) rfl ?_
    refine y (ev_eql rfl rfl) rfl ?_
    refine ynil' (kthn (hK7 _ _ ?_))
    clear hK7
    refine ccond rfl (fun h18 => ?_) (fun h18 => ?_)
    ·(try simp only [sH] at h18)
     rw [if_pos h18] at htk
     refine cseq ?_; intro K8 hK8
     refine creg ?_
     refine y (ev_build (zs := _) rfl Tryz.underlying37 Tryz.zeroValue37 rfl (.cons Tryz.sizeOf3 (.cons Tryz.sizeOf2 (.cons Tryz.sizeOf2 (.cons Tryz.sizeOf2 (.cons Tryz.sizeOf3 (.cons Tryz.sizeOf3 (.cons Tryz.sizeOf29 (.cons Tryz.sizeOf35 (.cons Tryz.sizeOf9 (.cons Tryz.sizeOf9 .nil)))))))))) trivial (by dsimp [fillL, splice, vcells] <;> rfl)) rfl ?_
     refine ya0 (ac_storeAll rfl rfl (msg_one .zero) Tryz.sizeOf37 zrp (by rfl) (by rfl)) ?_
     rintro v L' ⟨rfl, rfl⟩
     refine yas ?_
     refine ynil' (kthn (hK8 _ _ ?_))
     clear hK8
     refine cret (kthr ?_)
     first
       | (exfalso; omega; done)
       | (refine kretct Tryz.results32 rfl rfl Tryz.isAgg37 Tryz.sizeOf37 zin (rfl) (L1 := [stoP s t ps _, celP t q _, celsP ps q _, dev q _] ++ R) zge ?_
          rw [htk]; exact ⟨_, ⟨rfl, rfl⟩, rfl⟩)
    ·(try simp only [sH] at h18)
     rw [if_neg h18] at htk
     refine cskip' (kthn (hK6 _ _ ?_))
     clear hK6
     refine cseq ?_; intro K9 hK9
     refine creg ?_
     refine y (ev_loadAll rfl Tryz.isAgg37 Tryz.sizeOf37 zin (by first | rfl | assumption | (simp [*]; done) | (simp [*]; omega))) rfl ?_
     refine ya0 (ac_storeAll rfl rfl (msg_one _) Tryz.sizeOf37 zrp (by rfl) (by rfl)) ?_
     rintro v L' ⟨rfl, rfl⟩
     refine yas ?_
     refine ynil' (kthn (hK9 _ _ ?_))
     clear hK9
     refine cret ?_
     first
       | (exfalso; omega; done)
       | (refine kretct Tryz.results32 rfl rfl Tryz.isAgg37 Tryz.sizeOf37 zin (rfl) (L1 := [stoP s t ps _, celP t q _, celsP ps q _, dev q _] ++ R) zge ?_
          rw [htk]; exact ⟨_, ⟨rfl, rfl⟩, rfl⟩)
   clear hK5
   refine cseq ?_; intro K10 hK10
   refine creg ?_
   refine ymv ?_
   refine y (ev_fieldAddr 1 rfl Tryz.underlying37 rfl Tryz.sizeOf2) rfl ?_
   refine y (ev_load rfl Tryz.isAgg2 zin rfl) rfl ?_
   refine ycall (bRaised ?sok28 ?se28) rfl Tryz.call67 ztk rfl ?_
   case sok28 => exact hS
   case se28 => exact hmok.epoch
   rintro v L' ⟨rfl, rfl⟩
   obtain ⟨hro, hrb, hrc, hrt⟩ := StoM.raised_ok hS (ep := m.epoch) hmok.epoch
   obtain ⟨r, hr0⟩ : ∃ r, S.raised D m.epoch = r := ⟨_, rfl⟩
   have htk0 : S.take D m = (if m.epoch < r.2.1.epoch then ((outM13 m 24 [] [], true), r.2) else if r.1 ≠ 0 then (if r.1 = 30 then ((.zero, false), r.2) else ((outM13 m r.1 [] [], true), r.2)) else if m.kind = 10 then (if (r.2.1.store r.2.2 m).1 = 30 then ((.zero, false), (r.2.1.store r.2.2 m).2) else ((outM13 m (r.2.1.store r.2.2 m).1 [] [], true), (r.2.1.store r.2.2 m).2)) else if 0 ≤ m.block ∧ inN S.bs.length m.block = false then ((outM13 m 2 [] [], true), r.2) else ((outM13 m 0 r.2.1.tab (r.2.1.getB m.block).data, true), r.2)) := by unfold StoM.take; rw [if_neg hbad, hr0]
   rw [hr0] at hro hrb hrc hrt ⊢
   rw [← hrc]
   obtain ⟨re, rs, rd⟩ := r
   dsimp only at hro hrb hrc hrt htk0 ⊢
   refine yas ?_
   refine ynil' (kthn (hK10 _ _ ?_))
   clear hK10
   refine cblock ?_
   refine cseq ?_; intro K11 hK11
   refine cdraw 7 [(0, true), (1, true), (2, true), (3, true), (4, true), (5, true), (6, true)] (_) Tryz.mixed (by kernel_rfl) .refl ?_
   refine hr rfl (ev_fieldAddr 1 rfl Tryz.underlying37 rfl Tryz.sizeOf2) rfl ?_
   refine hr rfl (ev_load rfl Tryz.isAgg2 zin rfl) rfl ?_
   refine hr rfl (ev_move rfl) rfl ?_
   refine hr rfl (ev_nil rfl) rfl ?_
   refine hr rfl (ev_fieldAddr 1 rfl Tryz.underlying128 rfl Tryz.sizeOf2) rfl ?_
   refine hr rfl (ev_load rfl Tryz.isAgg2 zin rfl) rfl ?_
   refine hr rfl (ev_lss rfl rfl) rfl ?_
   refine hnil ?_
   refine yas ?_
   refine hnoP' (kthn (hK11 _ _ ?_))
   clear hK11
   refine ccond rfl (fun h38 => ?_) (fun h38 => ?_)
   ·(try simp only [sH] at h38)
    refine creg ?_
    have hf : S.take D m = (if (outM13 m 24 [] []).e = 30 then (.zero, false) else (outM13 m 24 [] [], true), (rs, rd)) := by rw [htk0, if_pos (by assumption)]; rfl
    refine y (ev_fieldAddr 6 rfl Tryz.underlying37 rfl Tryz.sizeOf29) rfl ?_
    refine ya0 (ac_store rfl rfl (by first | rfl | exact svVal_one _ _ | assumption) Tryz.sizeOf29 zrp rfl rfl) ?_
    rintro v L' ⟨rfl, rfl⟩
    refine ynil' (kbn (kthn ?_))
    exact ksub zsub zge (hJr17 (_, _) hf)
   ·(try simp only [sH] at h38)
    refine cseq ?_; intro K12 hK12
    refine creg ?_
    refine ymv ?_
    refine y (ev_neq rfl rfl) rfl ?_
    refine yas ?_
    refine ynil' (kthn (hK12 _ _ ?_))
    clear hK12
    refine ccond rfl (fun h44 => ?_) (fun h44 => ?_)
    ·(try simp only [sH] at h44)
     refine creg ?_
     have hf : S.take D m = (if (outM13 m re [] []).e = 30 then (.zero, false) else (outM13 m re [] [], true), (rs, rd)) := by rw [htk0, if_neg (by omega), if_pos (by assumption)]; show _ = (if re = 30 then _ else _, _); split <;> rfl
     refine ymv ?_
     refine y (ev_fieldAddr 6 rfl Tryz.underlying37 rfl Tryz.sizeOf29) rfl ?_
     refine ya0 (ac_store rfl rfl (by first | rfl | exact svVal_one _ _ | assumption) Tryz.sizeOf29 zrp rfl rfl) ?_
     rintro v L' ⟨rfl, rfl⟩
     refine ynil' (kbn (kthn ?_))
     exact ksub zsub zge (hJr17 (_, _) hf)
    ·(try simp only [sH] at h44)
     refine cseq ?_; intro K13 hK13
     refine creg ?_
     refine y (ev_fieldAddr 0 rfl Tryz.underlying37 rfl Tryz.sizeOf3) rfl ?_
     refine y (ev_load rfl Tryz.isAgg3 zin rfl) rfl ?_
     refine y (ev_eql rfl rfl) rfl ?_
     refine yas ?_
     refine ynil' (kthn (hK13 _ _ ?_))
     clear hK13
     refine ccond rfl (fun h52 => ?_) (fun h52 => ?_)
     ·(try simp only [sH] at h52)
      refine creg ?_
      have hf : S.take D m = (if (outM13 m (rs.store rd m).1 [] []).e = 30 then (.zero, false) else (outM13 m (rs.store rd m).1 [] [], true), (rs.store rd m).2) := by rw [htk0, if_neg (by omega), if_neg (by omega), if_pos (by omega)]; show _ = (if (rs.store rd m).1 = 30 then _ else _, _); split <;> rfl
      refine ymv ?_
      refine y (ev_loadAll rfl Tryz.isAgg37 Tryz.sizeOf37 zin (by first | rfl | assumption | (simp [*]; done) | (simp [*]; omega))) rfl ?_
      refine ycall (bStore ?sok55 ?sm55) rfl Tryz.call68 ztk rfl ?_
      case sok55 => exact hro
      case sm55 => exact hmok
      rintro v L' ⟨rfl, rfl⟩
      obtain ⟨w, hw0⟩ : ∃ w, rs.store rd m = w := ⟨_, rfl⟩
      have hwt := store_tok rs rd m
      rw [hw0] at hf hwt ⊢
      rw [← hwt]
      refine y (ev_fieldAddr 6 rfl Tryz.underlying37 rfl Tryz.sizeOf29) rfl ?_
      refine ya0 (ac_store rfl rfl (by first | rfl | exact svVal_one _ _ | assumption) Tryz.sizeOf29 zrp rfl rfl) ?_
      rintro v L' ⟨rfl, rfl⟩
      refine ynil' (kbn (kthn ?_))
      exact ksub zsub zge (hJr17 (_, _) hf)
     ·(try simp only [sH] at h52)
      refine cseq ?_; intro K14 hK14
      refine creg ?_
      refine y (ev_fieldAddr 4 rfl Tryz.underlying37 rfl Tryz.sizeOf3) rfl ?_
      refine y (ev_load rfl Tryz.isAgg3 zin rfl) rfl ?_
      refine y (ev_geq rfl rfl) rfl ?_
      refine ymv ?_
      refine ysplit 78 rfl (fun h62 => ?_) (fun h62 => ?_)
      ·(try simp only [sH] at h62)
       refine ygo ?_
       refine ymv ?_
       refine ygo ?_
       refine y (ev_fieldAddr 4 rfl Tryz.underlying37 rfl Tryz.sizeOf3) rfl ?_
       refine ygo ?_
       refine y (ev_load rfl Tryz.isAgg3 zin rfl) rfl ?_
       refine ygo ?_
       refine ycall (bIn) rfl Tryz.call69 ztk rfl ?_
       rintro v L' ⟨rfl, rfl⟩
       refine ygo ?_
       refine y (ev_not rfl) rfl ?_
       refine ypa ?_
       refine yas ?_
       refine ynil' (kthn (hK14 _ _ ?_))
       clear hK14
       refine ccond rfl (fun h70 => ?_) (fun h70 => ?_)
       ·(try simp only [sH] at h70)
        refine creg ?_
        have hf : S.take D m = (if (outM13 m 2 [] []).e = 30 then (.zero, false) else (outM13 m 2 [] [], true), (rs, rd)) := by rw [htk0, if_neg (by omega), if_neg (by omega), if_neg (by omega), if_pos ⟨by omega, by rw [← hrb]; simp_all⟩]; rfl
        refine y (ev_fieldAddr 6 rfl Tryz.underlying37 rfl Tryz.sizeOf29) rfl ?_
        refine ya0 (ac_store rfl rfl (by first | rfl | exact svVal_one _ _ | assumption) Tryz.sizeOf29 zrp rfl rfl) ?_
        rintro v L' ⟨rfl, rfl⟩
        refine ynil' (kbn (kthn ?_))
        exact ksub zsub zge (hJr17 (_, _) hf)
       ·(try simp only [sH] at h70)
        refine cseq ?_; intro K15 hK15
        refine creg ?_
        have hf : S.take D m = (if (outM13 m 0 rs.tab (rs.getB m.block).data).e = 30 then (.zero, false) else (outM13 m 0 rs.tab (rs.getB m.block).data, true), (rs, rd)) := by rw [htk0, if_neg (by omega), if_neg (by omega), if_neg (by omega), if_neg (by rw [← hrb]; rintro ⟨h1, h2⟩; first | omega | simp_all)]; rfl
        refine ymv ?_
        refine yni ?_
        refine y (ev_fieldAddr 131 rfl Tryz.underlying128 rfl Tryz.sizeOf35) rfl ?_
        refine y (ev_loadN (u := intsV rs.tab) rfl Tryz.isAgg35 Tryz.sizeOf35 zin (sto_tab hro.wf.rows hro.wf.tab) (by simp [intsV, hro.wf.tab])) rfl ?_
        refine y (ev_fieldAddr 7 rfl Tryz.underlying37 rfl Tryz.sizeOf35) rfl ?_
        refine ya0 (ac_storeN (vs' := (outM13 m 0 rs.tab []).cells) rfl rfl (intsV_one _) Tryz.sizeOf35 zrp (by simp [intsV, hro.wf.tab]) (by simp [outM13, MsgM.cells]) (by rw [tab4 hro.wf.tab]; rfl)) ?_
        rintro v L' ⟨rfl, rfl⟩
        refine ynil' (kthn (hK15 _ _ ?_))
        clear hK15
        refine creg ?_
        refine ymv ?_
        refine y (ev_fieldAddr 4 rfl Tryz.underlying37 rfl Tryz.sizeOf3) rfl ?_
        refine y (ev_load rfl Tryz.isAgg3 zin rfl) rfl ?_
        refine ycall (bGet ?gw82) rfl Tryz.call35 ztk rfl ?_
        case gw82 => exact hro.wf
        rintro v L' ⟨rfl, rfl⟩
        refine ymv ?_
        refine yxt ?_
        refine yxt ?_
        refine y (ev_fieldAddr 11 rfl Tryz.underlying37 rfl Tryz.sizeOf9) rfl ?_
        refine ya0 (ac_store rfl rfl (by first | rfl | exact svVal_one _ _ | assumption) Tryz.sizeOf9 zrp rfl rfl) ?_
        rintro v L' ⟨rfl, rfl⟩
        refine ynil' (kbn (kthn ?_))
        exact ksub zsub zge (hJr17 (_, _) hf)
      ·(try simp only [sH] at h62)
       refine ygz ?_
       refine ygz ?_
       refine ygz ?_
       refine ygz ?_
       refine ygz ?_
       refine ypb ?_
       refine yas ?_
       refine ynil' (kthn (hK14 _ _ ?_))
       clear hK14
       refine ccond0 rfl ?_
       refine cseq ?_; intro K16 hK16
       refine creg ?_
       have hf : S.take D m = (if (outM13 m 0 rs.tab (rs.getB m.block).data).e = 30 then (.zero, false) else (outM13 m 0 rs.tab (rs.getB m.block).data, true), (rs, rd)) := by rw [htk0, if_neg (by omega), if_neg (by omega), if_neg (by omega), if_neg (by rw [← hrb]; rintro ⟨h1, h2⟩; first | omega | simp_all)]; rfl
       refine ymv ?_
       refine yni ?_
       refine y (ev_fieldAddr 131 rfl Tryz.underlying128 rfl Tryz.sizeOf35) rfl ?_
       refine y (ev_loadN (u := intsV rs.tab) rfl Tryz.isAgg35 Tryz.sizeOf35 zin (sto_tab hro.wf.rows hro.wf.tab) (by simp [intsV, hro.wf.tab])) rfl ?_
       refine y (ev_fieldAddr 7 rfl Tryz.underlying37 rfl Tryz.sizeOf35) rfl ?_
       refine ya0 (ac_storeN (vs' := (outM13 m 0 rs.tab []).cells) rfl rfl (intsV_one _) Tryz.sizeOf35 zrp (by simp [intsV, hro.wf.tab]) (by simp [outM13, MsgM.cells]) (by rw [tab4 hro.wf.tab]; rfl)) ?_
       rintro v L' ⟨rfl, rfl⟩
       refine ynil' (kthn (hK16 _ _ ?_))
       clear hK16
       refine creg ?_
       refine ymv ?_
       refine y (ev_fieldAddr 4 rfl Tryz.underlying37 rfl Tryz.sizeOf3) rfl ?_
       refine y (ev_load rfl Tryz.isAgg3 zin rfl) rfl ?_
       refine ycall (bGet ?gw99) rfl Tryz.call35 ztk rfl ?_
       case gw99 => exact hro.wf
       rintro v L' ⟨rfl, rfl⟩
       refine ymv ?_
       refine yxt ?_
       refine yxt ?_
       refine y (ev_fieldAddr 11 rfl Tryz.underlying37 rfl Tryz.sizeOf9) rfl ?_
       refine ya0 (ac_store rfl rfl (by first | rfl | exact svVal_one _ _ | assumption) Tryz.sizeOf9 zrp rfl rfl) ?_
       rintro v L' ⟨rfl, rfl⟩
       refine ynil' (kbn (kthn ?_))
       exact ksub zsub zge (hJr17 (_, _) hf)
  clear hK4
  refine cseq ?_; intro K17 hK17
  refine creg ?_
  refine y (ev_fieldAddr 0 rfl Tryz.underlying37 rfl Tryz.sizeOf3) rfl ?_
  refine y (ev_load rfl Tryz.isAgg3 zin rfl) rfl ?_
  refine y (ev_eql rfl rfl) rfl ?_
  refine ynil' (kthn (hK17 _ _ ?_))
  clear hK17
  refine ccond rfl (fun h108 => ?_) (fun h108 => ?_)
  ·(try simp only [sH] at h108)
   have hkd : (outM13 m 0 [] []).cells = [i64 13, i64 m.epoch, i64 m.seq, i64 m.n, i64 m.block, i64 (-1), i64 0, i64 0, i64 0, i64 0, i64 0, str [], str []] := by unfold outM13 MsgM.cells; rw [if_pos h108]; rfl
   rw [hkd] at hJr6
   refine creg ?_
   refine y (ev_fieldAddr 0 rfl Tryz.underlying37 rfl Tryz.sizeOf3) rfl ?_
   refine ya0 (ac_store rfl rfl (by first | rfl | exact svVal_one _ _ | assumption) Tryz.sizeOf3 zrp rfl rfl) ?_
   rintro v L' ⟨rfl, rfl⟩
   refine ynil' (kthn ?_)
   exact ksub zsub zge (hJr6 () trivial)
  ·(try simp only [sH] at h108)
   have hkd : (outM13 m 0 [] []).cells = [i64 11, i64 m.epoch, i64 m.seq, i64 m.n, i64 m.block, i64 (-1), i64 0, i64 0, i64 0, i64 0, i64 0, str [], str []] := by unfold outM13 MsgM.cells; rw [if_neg h108]; rfl
   rw [hkd] at hJr6
   refine cskip' (kthn ?_)
   exact ksub zsub zge (hJr6 () trivial)
 clear hK2
 refine cseq ?_; intro K18 hK18
 refine creg ?_
 refine y (ev_fieldAddr 0 rfl Tryz.underlying37 rfl Tryz.sizeOf3) rfl ?_
 refine y (ev_load rfl Tryz.isAgg3 zin rfl) rfl ?_
 refine y (ev_neq rfl rfl) rfl ?_
 refine ymv ?_
 refine ysplit 11 rfl (fun h115 => ?_) (fun h115 => ?_)
 ·(try simp only [sH] at h115)
  refine ygo ?_
  refine y (ev_fieldAddr 0 rfl Tryz.underlying37 rfl Tryz.sizeOf3) rfl ?_
  refine ygo ?_
  refine y (ev_load rfl Tryz.isAgg3 zin rfl) rfl ?_
  refine ygo ?_
  refine y (ev_neq rfl rfl) rfl ?_
  refine ypa ?_
  refine ymv ?_
  refine ysplit 16 rfl (fun h121 => ?_) (fun h121 => ?_)
  ·(try simp only [sH] at h121)
   refine ygz ?_
   refine ygz ?_
   refine ygz ?_
   refine ypa ?_
   refine ynil' (kthn (hK18 _ _ ?_))
   clear hK18
   refine ccond1 rfl ?_
   refine cseq ?_; intro K19 hK19
   refine creg ?_
   have htk : S.take D m = ((.zero, false), S, D) := by unfold StoM.take; rw [if_pos]; first | (left; omega) | (right; simp_all; done)
   refine y (ev_build (zs := _) rfl Tryz.underlying37 Tryz.zeroValue37 rfl (.cons Tryz.sizeOf3 (.cons Tryz.sizeOf2 (.cons Tryz.sizeOf2 (.cons Tryz.sizeOf2 (.cons Tryz.sizeOf3 (.cons Tryz.sizeOf3 (.cons Tryz.sizeOf29 (.cons Tryz.sizeOf35 (.cons Tryz.sizeOf9 (.cons Tryz.sizeOf9 .nil)))))))))) trivial (by dsimp [fillL, splice, vcells] <;> rfl)) rfl ?_
   refine ya0 (ac_storeAll rfl rfl (msg_one .zero) Tryz.sizeOf37 zrp (by rfl) (by rfl)) ?_
   rintro v L' ⟨rfl, rfl⟩
   refine yas ?_
   refine ynil' (kthn (hK19 _ _ ?_))
   clear hK19
   refine cret (kthr ?_)
   first
     | (exfalso; omega; done)
     | (refine kretct Tryz.results32 rfl rfl Tryz.isAgg37 Tryz.sizeOf37 zin (rfl) (L1 := [stoP s t ps _, celP t q _, celsP ps q _, dev q _] ++ R) zge ?_
        rw [htk]; exact ⟨_, ⟨rfl, rfl⟩, rfl⟩)
  ·(try simp only [sH] at h121)
   refine ygo ?_
   refine y (ev_loadAll rfl Tryz.isAgg37 Tryz.sizeOf37 zin (by first | rfl | assumption | (simp [*]; done) | (simp [*]; omega))) rfl ?_
   refine ygo ?_
   refine ycall (mMay (m := m)) rfl Tryz.call46 ztk rfl ?_
   rintro v L' ⟨rfl, rfl⟩
   refine ygo ?_
   refine y (ev_not rfl) rfl ?_
   refine ypb ?_
   refine ynil' (kthn (hK18 _ _ ?_))
   clear hK18
   refine ccond rfl (fun h130 => ?_) (fun h130 => ?_)
   ·(try simp only [sH] at h130)
    refine cseq ?_; intro K20 hK20
    refine creg ?_
    have htk : S.take D m = ((.zero, false), S, D) := by unfold StoM.take; rw [if_pos]; first | (left; omega) | (right; simp_all; done)
    refine y (ev_build (zs := _) rfl Tryz.underlying37 Tryz.zeroValue37 rfl (.cons Tryz.sizeOf3 (.cons Tryz.sizeOf2 (.cons Tryz.sizeOf2 (.cons Tryz.sizeOf2 (.cons Tryz.sizeOf3 (.cons Tryz.sizeOf3 (.cons Tryz.sizeOf29 (.cons Tryz.sizeOf35 (.cons Tryz.sizeOf9 (.cons Tryz.sizeOf9 .nil)))))))))) trivial (by dsimp [fillL, splice, vcells] <;> rfl)) rfl ?_
    refine ya0 (ac_storeAll rfl rfl (msg_one .zero) Tryz.sizeOf37 zrp (by rfl) (by rfl)) ?_
    rintro v L' ⟨rfl, rfl⟩
    refine yas ?_
    refine ynil' (kthn (hK20 _ _ ?_))
    clear hK20
    refine cret (kthr ?_)
    first
      | (exfalso; omega; done)
      | (refine kretct Tryz.results32 rfl rfl Tryz.isAgg37 Tryz.sizeOf37 zin (rfl) (L1 := [stoP s t ps _, celP t q _, celsP ps q _, dev q _] ++ R) zge ?_
         rw [htk]; exact ⟨_, ⟨rfl, rfl⟩, rfl⟩)
   ·(try simp only [sH] at h130)
    refine cskip' (kthn ?_)
    first
      | (exfalso; omega; done)
      | exact ksub zsub zge (hJr3 () (⟨by simp_all, by omega⟩))
 ·(try simp only [sH] at h115)
  refine ygz ?_
  refine ygz ?_
  refine ygz ?_
  refine ypb ?_
  refine ymv ?_
  refine ygo ?_
  refine y (ev_loadAll rfl Tryz.isAgg37 Tryz.sizeOf37 zin (by first | rfl | assumption | (simp [*]; done) | (simp [*]; omega))) rfl ?_
  refine ygo ?_
  refine ycall (mMay (m := m)) rfl Tryz.call46 ztk rfl ?_
  rintro v L' ⟨rfl, rfl⟩
  refine ygo ?_
  refine y (ev_not rfl) rfl ?_
  refine ypb ?_
  refine ynil' (kthn (hK18 _ _ ?_))
  clear hK18
  refine ccond rfl (fun h140 => ?_) (fun h140 => ?_)
  ·(try simp only [sH] at h140)
   refine cseq ?_; intro K21 hK21
   refine creg ?_
   have htk : S.take D m = ((.zero, false), S, D) := by unfold StoM.take; rw [if_pos]; first | (left; omega) | (right; simp_all; done)
   refine y (ev_build (zs := _) rfl Tryz.underlying37 Tryz.zeroValue37 rfl (.cons Tryz.sizeOf3 (.cons Tryz.sizeOf2 (.cons Tryz.sizeOf2 (.cons Tryz.sizeOf2 (.cons Tryz.sizeOf3 (.cons Tryz.sizeOf3 (.cons Tryz.sizeOf29 (.cons Tryz.sizeOf35 (.cons Tryz.sizeOf9 (.cons Tryz.sizeOf9 .nil)))))))))) trivial (by dsimp [fillL, splice, vcells] <;> rfl)) rfl ?_
   refine ya0 (ac_storeAll rfl rfl (msg_one .zero) Tryz.sizeOf37 zrp (by rfl) (by rfl)) ?_
   rintro v L' ⟨rfl, rfl⟩
   refine yas ?_
   refine ynil' (kthn (hK21 _ _ ?_))
   clear hK21
   refine cret (kthr ?_)
   first
     | (exfalso; omega; done)
     | (refine kretct Tryz.results32 rfl rfl Tryz.isAgg37 Tryz.sizeOf37 zin (rfl) (L1 := [stoP s t ps _, celP t q _, celsP ps q _, dev q _] ++ R) zge ?_
        rw [htk]; exact ⟨_, ⟨rfl, rfl⟩, rfl⟩)
  ·(try simp only [sH] at h140)
   refine cskip' (kthn ?_)
   first
     | (exfalso; omega; done)
     | exact ksub zsub zge (hJr3 () (⟨by simp_all, by omega⟩))
end W
end Go.Proofs
