/- A part of the proof: contracts and plain lemmas, each without conditions beyond those that it names. -/
import Derived.Test.YtebijajimmjknaaGreatB3
import Derived.Test.YtebijajimmjknaaGreatGJ
import Derived.Test.YtebijajimmjknaaGreatGH
set_option linter.unusedVariables false
set_option linter.unusedSimpArgs false
set_option linter.constructorNameAsVariable false
namespace Go.Proofs
open Go Go.Sl
namespace W
set_option linter.unusedVariables false
theorem bRaise0 [Env] {R : List Seg} {b : Nat} {T : TypeId} {t l : List Int} {lv : Value} (hv : RdV R lv 4 (intsV l)) (ht : t.length = 4) (hl : l.length = 4) :
   Con Tryz.prog 65 [ptr b, lv] [sc b (intsV t) T] R (Is (.tuple #[]) [sc b (intsV (maxT t l)) T]) := by
 have h := bRaise (b := b) (o := 0) (T := T) (pre := []) (post := []) hv rfl ht hl
 simpa using h
theorem bStore [Env] {R : List Seg} {s t : Nat} {ps : List Nat} {q : Q3} {S : StoM} {D : Dev} {m : MsgM} (hS : S.ok D ps) (hm : m.ok) :
   Con Tryz.prog 68 [ptr s, .agg m.cells.toArray] [stoP s t ps S, celsP ps q S.cs, dev q D] R (Is (i64 (S.store D m).1) [stoP s t ps (S.store D m).2.1, celsP ps q (S.store D m).2.1.cs, dev q (S.store D m).2.2]) := by
 refine con_enter Tryz.func68 Tryz.ntmps68 rfl rfl ?_
 refine cseq ?_; intro K1 hK1
 refine creg ?_
 refine ya (ac_box (vs := m.cells) rfl rfl) rfl ?_
 rintro v L' ⟨b3, rfl, rfl⟩
 refine yas ?_
 refine ynil' (kthn (hK1 _ _ ?_))
 clear hK1
 refine cseq ?_; intro K2 hK2
 refine creg ?_
 refine y (ev_fieldAddr 1 rfl Tryz.underlying37 rfl Tryz.sizeOf2) rfl ?_
 refine y (ev_load rfl Tryz.isAgg2 zin rfl) rfl ?_
 refine y (ev_fieldAddr 2 rfl Tryz.underlying37 rfl Tryz.sizeOf2) rfl ?_
 refine y (ev_load rfl Tryz.isAgg2 zin rfl) rfl ?_
 refine y (ev_build (zs := _) rfl Tryz.underlying72 Tryz.zeroValue72 rfl (.cons Tryz.sizeOf2 (.cons Tryz.sizeOf2 .nil)) ⟨⟨_, _, rfl, (by first | rfl | simp), (by first | decide | simp)⟩, ⟨⟨_, _, rfl, (by first | rfl | simp), (by first | decide | simp)⟩, trivial⟩⟩ (by dsimp [fillL, splice, vcells] <;> rfl)) rfl ?_
 refine ya (ac_alloc Tryz.zeroValue72 rfl) rfl ?_
 rintro v L' ⟨b5, rfl, rfl⟩
 refine ya0 (ac_storeAll rfl rfl (by first | exact bytesV_one _ | (simp [Value.oneCell']; done) | (simp only [List.forall_mem_cons, List.not_mem_nil, false_implies, implies_true, svVal_one, and_true, true_and, and_self]; first | done | simp [Value.oneCell'])) Tryz.sizeOf72 zrp (by first | rfl | assumption | (simp [*]; done) | (simp [*]; omega)) (by first | rfl | assumption | (simp [*]; done) | (simp [*]; omega))) ?_
 rintro v L' ⟨rfl, rfl⟩
 refine ynil' (kthn (hK2 _ _ ?_))
 clear hK2
 refine cseq ?_; intro K3 hK3
 refine cblock ?_
 refine cseq ?_; intro K4 hK4
 refine creg ?_
 refine ymv ?_
 refine y (ev_fieldAddr 4 rfl Tryz.underlying37 rfl Tryz.sizeOf3) rfl ?_
 refine y (ev_load rfl Tryz.isAgg3 zin rfl) rfl ?_
 refine ycall (bIn) rfl Tryz.call69 ztk rfl ?_
 rintro v L' ⟨rfl, rfl⟩
 refine y (ev_not rfl) rfl ?_
 refine yas ?_
 refine ynil' (kthn (hK4 _ _ ?_))
 clear hK4
 refine ccond rfl (fun h16 => ?_) (fun h16 => ?_)
 ·(try simp only [sH] at h16)
  have hin : inN S.bs.length m.block = false := by simpa using h16
  have hst : S.store D m = (2, S, D) := by unfold StoM.store; rw [if_pos hin]
  refine cseq ?_; intro K5 hK5
  refine creg ?_
  refine yas ?_
  refine ynil' (kthn (hK5 _ _ ?_))
  clear hK5
  refine cret (kbr (kthr ?_))
  first
    | (exfalso; omega; done)
    | (refine kretv Tryz.results68 rfl (L1 := [stoP s t ps S, celsP ps q S.cs, dev q D] ++ R) zge ?_
       rw [hst]; exact ⟨_, ⟨rfl, rfl⟩, rfl⟩)
    | (refine kretv Tryz.results68 rfl (L1 := [sc s _ 128, celsP ps q _, dev q _] ++ R) zge ?_
       rw [hst]; refine ⟨_, ⟨rfl, ?_⟩, rfl⟩; simp [stoP])
    | (refine kretv Tryz.results68 rfl (L1 := [sc s _ 128, celsP ps q S.cs, dev q D] ++ R) zge ?_
       rw [hst]; exact ⟨_, ⟨rfl, rfl⟩, rfl⟩)
 ·(try simp only [sH] at h16)
  have hin : inN S.bs.length m.block = true := by simpa using h16
  obtain ⟨hi0, hi1⟩ := inN_iff.1 hin
  refine cseq ?_; intro K6 hK6
  refine creg ?_
  refine y (ev_fieldAddr 11 rfl Tryz.underlying37 rfl Tryz.sizeOf9) rfl ?_
  refine y (ev_load rfl Tryz.isAgg9 zin rfl) rfl ?_
  first
    | refine y (ev_lenStr rfl Tryz.underlying9) rfl ?_
    | refine y (ev_lenS rfl Tryz.underlying9) rfl ?_
  refine y (ev_neq rfl rfl) rfl ?_
  refine yas ?_
  refine ynil' (kthn (hK6 _ _ ?_))
  clear hK6
  refine ccond rfl (fun h23 => ?_) (fun h23 => ?_)
  ·(try simp only [sH] at h23)
   have hst : S.store D m = (3, S, D) := by unfold StoM.store; rw [if_neg (by rw [hin]; decide), if_pos (by omega)]
   refine cseq ?_; intro K7 hK7
   refine creg ?_
   refine yas ?_
   refine ynil' (kthn (hK7 _ _ ?_))
   clear hK7
   refine cret (kbr (kthr ?_))
   first
     | (exfalso; omega; done)
     | (refine kretv Tryz.results68 rfl (L1 := [stoP s t ps S, celsP ps q S.cs, dev q D] ++ R) zge ?_
        rw [hst]; exact ⟨_, ⟨rfl, rfl⟩, rfl⟩)
     | (refine kretv Tryz.results68 rfl (L1 := [sc s _ 128, celsP ps q _, dev q _] ++ R) zge ?_
        rw [hst]; refine ⟨_, ⟨rfl, ?_⟩, rfl⟩; simp [stoP])
     | (refine kretv Tryz.results68 rfl (L1 := [sc s _ 128, celsP ps q S.cs, dev q D] ++ R) zge ?_
        rw [hst]; exact ⟨_, ⟨rfl, rfl⟩, rfl⟩)
  ·(try simp only [sH] at h23)
   have hd8 : (m.data.length : Int) = 8 := by omega
   obtain ⟨p0, b0, hp0, hb0, hrow, hgb⟩ := hS.wf.row hin
   have hn32 := hS.wf.n
   refine cskip' (kbn (kthn (hK3 _ _ ?_)))
   clear hK3
   refine cseq ?_; intro K8 hK8
   refine cdraw 6 [(0, true), (1, true), (2, true), (3, true), (4, true), (5, true)] (_) Tryz.mixed (by kernel_rfl) .refl ?_
   unfold stoP
   refine hr rfl (ev_move rfl) rfl ?_
   refine hr rfl (ev_fieldAddr 4 rfl Tryz.underlying37 rfl Tryz.sizeOf3) rfl ?_
   refine hr rfl (ev_load rfl Tryz.isAgg3 zin rfl) rfl ?_
   refine hr rfl (ev_nil rfl) rfl ?_
   refine hr rfl (ev_fieldAddr 3 rfl Tryz.underlying128 rfl Tryz.sizeOf126) rfl ?_
   refine hr rfl (ev_ixAddrA rfl rfl Tryz.underlying126 Tryz.sizeOf125 (by omega) (by omega)) rfl ?_
   refine hnil ?_
   refine yas ?_
   refine hnoP' (kthn (hK8 _ _ ?_))
   clear hK8
   refine cseq ?_; intro K9 hK9
   have hJr9 : ∀ x : Unit, (¬ (m.epoch < (S.getB m.block).v0 ∨ (m.epoch = (S.getB m.block).v0 ∧ m.seq ≤ (S.getB m.block).v1))) → Sk 119 K9 ([(0, ptr s), (3, ptr b3), (5, ptr b5), (6, .pointer (some ⟨s, 3 + m.block.toNat * 4, none⟩))]) ([sc b5 [i64 m.epoch, i64 m.seq] 72, sc b3 m.cells 37, sc s (stoV (ptr t) S.epoch S.bs.length (rowsOf ps S.bs) S.tab) 128, celsP ps q S.cs, dev q D] ++ R) := by
    rintro x hIr9
    refine hK9 _ _ ?_
    obtain ⟨hC0, hCok⟩ := hS.cell hin
    obtain ⟨C0, hCe⟩ : ∃ C, S.cell m.block = C := ⟨_, rfl⟩
    rw [hCe] at hC0 hCok
    have hst : S.store D m = ((C0.put D (recB (blkR m.epoch m.seq (tabUp S.tab m) m.data))).1, { S with cs := S.cs.set m.block.toNat (C0.put D (recB (blkR m.epoch m.seq (tabUp S.tab m) m.data))).2.1, bs := if (C0.put D (recB (blkR m.epoch m.seq (tabUp S.tab m) m.data))).1 = 0 then S.bs.set m.block.toNat ⟨m.epoch, m.seq, m.data⟩ else S.bs, tab := if (C0.put D (recB (blkR m.epoch m.seq (tabUp S.tab m) m.data))).1 = 0 then tabUp S.tab m else S.tab }, (C0.put D (recB (blkR m.epoch m.seq (tabUp S.tab m) m.data))).2.2) := by unfold StoM.store; rw [if_neg (by rw [hin]; decide), if_neg (by omega), if_neg hIr9, hCe]
    have htb := sto_tab (tp := ptr t) (ep := S.epoch) (n := S.bs.length) hS.wf.rows hS.wf.tab
    have hmt := maxT_len hS.wf.tab (msgT_len m)
    have htl := tabUp_len hS.wf.tab m
    have hto := tabUp_ok hS.wf.tab hS.tab hm
    have hbm := blk_may (v0 := m.epoch) (v1 := m.seq) (d := m.data) hm.epoch hm.seq htl hto (by omega)
    have hbl := blk_len (v0 := m.epoch) (v1 := m.seq) (d := m.data) hm.epoch hm.seq htl hto (by omega)
    have henc := enc_of hbm
    have hcl := hm.client
    clear hIr9
    refine cseq ?_; intro K10 hK10
    refine creg ?_
    refine ymv ?_
    refine yni ?_
    refine y (ev_fieldAddr 131 rfl Tryz.underlying128 rfl Tryz.sizeOf35) rfl ?_
    refine y (ev_loadN (u := intsV S.tab) rfl Tryz.isAgg35 Tryz.sizeOf35 zin htb (by simp [intsV, hS.wf.tab])) rfl ?_
    refine ya (ac_alloc Tryz.zeroValue35 rfl) rfl ?_
    rintro v L' ⟨b7, rfl, rfl⟩
    refine ya0 (ac_storeN (vs' := intsV S.tab) rfl rfl (intsV_one _) Tryz.sizeOf35 zrp (by simp [intsV, hS.wf.tab]) (by simp [intsV, hS.wf.tab]) (by simp [intsV, hS.wf.tab])) ?_
    rintro v L' ⟨rfl, rfl⟩
    refine ynil' (kthn (hK10 _ _ ?_))
    clear hK10
    refine cseq ?_; intro K11 hK11
    refine creg ?_
    refine y (ev_fieldAddr 7 rfl Tryz.underlying37 rfl Tryz.sizeOf35) rfl ?_
    refine y (ev_slA rfl Tryz.underlying35 Tryz.sizeOf2) rfl ?_
    refine ycall (bRaise0 (l := msgT m) ?rv40 hS.wf.tab (msgT_len m)) rfl Tryz.call65 ztk rfl ?_
    case rv40 => exact rdV_in zin rfl rfl
    rintro v L' ⟨rfl, rfl⟩
    obtain ⟨mt, hmte⟩ : ∃ l, maxT S.tab (msgT m) = l := ⟨_, rfl⟩
    rw [hmte] at hmt ⊢
    refine ynil' (kthn (hK11 _ _ ?_))
    clear hK11
    refine cseq ?_; intro K12 hK12
    have hJr13 : ∀ x : Unit, (True) → Sk 119 K12 ([(0, ptr s), (3, ptr b3), (5, ptr b5), (6, .pointer (some ⟨s, 3 + m.block.toNat * 4, none⟩)), (7, ptr b7)]) ([sc b7 (intsV (tabUp S.tab m)) 35, sc b5 [i64 m.epoch, i64 m.seq] 72, sc b3 m.cells 37, sc s (stoV (ptr t) S.epoch S.bs.length (rowsOf ps S.bs) S.tab) 128, celsP ps q S.cs, dev q D] ++ R) := by
     rintro x hIr13
     refine hK12 _ _ ?_
     have hnl : (blkR m.epoch m.seq (tabUp S.tab m) m.data).nums.length = 2 + 4 := by simp [blkR, htl]
     have hne : intsV (blkR m.epoch m.seq (tabUp S.tab m) m.data).nums = [i64 m.epoch, i64 m.seq] ++ intsV (tabUp S.tab m) := by simp [blkR, intsV]
     refine cseq ?_; intro K13 hK13
     have hJr14 : ∀ x : Nat × Nat × Sv × Bytes, (svOk x.2.2.1 x.2.2.2.length 1 (bytesV x.2.2.2) ∧ S.store D m = ((C0.put D x.2.2.2).1, { S with cs := S.cs.set m.block.toNat (C0.put D x.2.2.2).2.1, bs := if (C0.put D x.2.2.2).1 = 0 then S.bs.set m.block.toNat ⟨m.epoch, m.seq, m.data⟩ else S.bs, tab := if (C0.put D x.2.2.2).1 = 0 then tabUp S.tab m else S.tab }, (C0.put D x.2.2.2).2.2)) → Sk 119 K13 ([(0, ptr s), (3, ptr b3), (5, ptr b5), (6, .pointer (some ⟨s, 3 + m.block.toNat * 4, none⟩)), (7, ptr b7), (8, svVal x.2.2.1 x.2.2.2.length)]) ([svSeg x.2.2.1 5 (bytesV x.2.2.2), sc b7 (intsV (tabUp S.tab m)) 35, sc b5 [i64 m.epoch, i64 m.seq] 72, sc b3 m.cells 37, sc s (stoV (ptr t) S.epoch S.bs.length (rowsOf ps S.bs) S.tab) 128, celsP ps q S.cs, dev q D] ++ R) := by
      rintro ⟨z1, z2, s93, rb⟩ hIr14
      refine hK13 _ _ ?_
      obtain ⟨ok93, hst⟩ := hIr14; dsimp only at ok93 hst ⊢
      refine cseq ?_; intro K14 hK14
      refine cdraw 6 [(0, true), (1, true), (2, true), (3, true), (4, true), (5, true)] ([sc s _ 128, sc b7 _ 35, sc b5 _ 72, sc b3 _ 37, svSeg s93 5 (bytesV rb)] ++ R) Tryz.mixed (by kernel_rfl) zge ?_
      refine hr rfl (ev_move rfl) rfl ?_
      refine hr rfl (ev_nil rfl) rfl ?_
      refine hr rfl (ev_fieldAddr 0 rfl Tryz.underlying125 rfl Tryz.sizeOf88) rfl ?_
      refine hr rfl (ev_load rfl Tryz.isAgg88 zin (sto_at (r := 0) hrow (by decide))) rfl ?_
      refine hr rfl (ev_move rfl) rfl ?_
      refine hr rfl (ev_toStrB (rdY_sv (L := [svSeg s93 5 (bytesV rb)]) .z ok93).rd.bytes zge rfl Tryz.underlying50 Tryz.underlying9 Tryz.underlying5) rfl ?_
      refine hnil ?_
      refine ycall (cPutAt hp0 hC0 hCok hS.d) rfl Tryz.call89 ztk rfl ?_
      rintro v L' ⟨rfl, rfl⟩
      obtain ⟨r, hr0⟩ : ∃ r, C0.put D rb = r := ⟨_, rfl⟩
      rw [hr0] at hst ⊢
      refine yas ?_
      refine hnoP' (kthn (hK14 _ _ ?_))
      clear hK14
      refine cseq ?_; intro K15 hK15
      refine cseq ?_; intro K16 hK16
      refine creg ?_
      refine ymv ?_
      refine y (ev_eql rfl rfl) rfl ?_
      refine ynil' (kthn (hK16 _ _ ?_))
      clear hK16
      refine ccond rfl (fun h51 => ?_) (fun h51 => ?_)
      ·(try simp only [sH] at h51)
       rw [if_pos h51, if_pos h51] at hst
       refine creg ?_
       refine ymv ?_
       refine ymv ?_
       refine ymv ?_
       refine y (ev_loadN (u := [i64 m.epoch, i64 m.seq]) rfl Tryz.isAgg72 Tryz.sizeOf72 zin rfl rfl) rfl ?_
       refine y (ev_fieldAddr 11 rfl Tryz.underlying37 rfl Tryz.sizeOf9) rfl ?_
       refine y (ev_load rfl Tryz.isAgg9 zin rfl) rfl ?_
       refine y (ev_loadN (u := intsV (tabUp S.tab m)) rfl Tryz.isAgg35 Tryz.sizeOf35 zin (by rw [List.drop_zero, List.take_of_length_le (by simp [intsV, htl])]) (by simp [intsV, htl])) rfl ?_
       refine yni ?_
       refine y (ev_fieldAddr 1 rfl Tryz.underlying125 rfl Tryz.sizeOf72) rfl ?_
       refine ya0 (ac_storeN rfl rfl (by intro u hu; simp at hu; rcases hu with rfl | rfl <;> rfl) Tryz.sizeOf72 zrp rfl (by rw [sto_len, hS.wf.rows]; omega) (sto_setN (y := ⟨ptr p0, ⟨m.epoch, m.seq, b0.data⟩⟩) hrow (by simp) rfl)) ?_
       rintro v L' ⟨rfl, rfl⟩
       have hrow2 : ((rowsOf ps S.bs).set m.block.toNat ⟨ptr p0, ⟨m.epoch, m.seq, b0.data⟩⟩)[m.block.toNat]? = some ⟨ptr p0, ⟨m.epoch, m.seq, b0.data⟩⟩ := List.getElem?_set_self (by rw [hS.wf.rows]; omega)
       refine yni ?_
       refine y (ev_fieldAddr 3 rfl Tryz.underlying125 rfl Tryz.sizeOf9) rfl ?_
       refine ya0 (ac_store rfl rfl rfl Tryz.sizeOf9 zrp (by simp [sto_len, hS.wf.rows]; omega) (sto_set (y := ⟨ptr p0, ⟨m.epoch, m.seq, m.data⟩⟩) hrow2 (by decide) rfl)) ?_
       rintro v L' ⟨rfl, rfl⟩
       rw [List.set_set, rowsOf_set (b := ⟨m.epoch, m.seq, m.data⟩) hp0 (by omega)]
       have hrl : (rowsOf ps (S.bs.set m.block.toNat ⟨m.epoch, m.seq, m.data⟩)).length = 32 := rowsOf_len (by rw [hS.wf.lp]; simp) (by simp; omega)
       refine yni ?_
       refine y (ev_fieldAddr 131 rfl Tryz.underlying128 rfl Tryz.sizeOf35) rfl ?_
       refine ya0 (ac_storeN rfl rfl (intsV_one _) Tryz.sizeOf35 zrp (by simp [intsV, htl]) (by rw [sto_len, hrl]; simp [hS.wf.tab]) (by have h := sto_tabset (tp := ptr t) (ep := S.epoch) (n := S.bs.length) hrl hS.wf.tab htl; simpa [intsV, htl] using h)) ?_
       rintro v L' ⟨rfl, rfl⟩
       refine ynil' (kthn (hK15 _ _ ?_))
       clear hK15
       refine cseq ?_; intro K17 hK17
       refine creg ?_
       refine ymv ?_
       refine yas ?_
       refine ynil' (kthn (hK17 _ _ ?_))
       clear hK17
       refine cret ?_
       first
         | (exfalso; omega; done)
         | (refine kretv Tryz.results68 rfl (L1 := [stoP s t ps S, celsP ps q S.cs, dev q D] ++ R) zge ?_
            rw [hst]; exact ⟨_, ⟨rfl, rfl⟩, rfl⟩)
         | (refine kretv Tryz.results68 rfl (L1 := [sc s _ 128, celsP ps q _, dev q _] ++ R) zge ?_
            rw [hst]; refine ⟨_, ⟨rfl, ?_⟩, rfl⟩; simp [stoP])
         | (refine kretv Tryz.results68 rfl (L1 := [sc s _ 128, celsP ps q S.cs, dev q D] ++ R) zge ?_
            rw [hst]; exact ⟨_, ⟨rfl, rfl⟩, rfl⟩)
      ·(try simp only [sH] at h51)
       rw [if_neg h51, if_neg h51] at hst
       refine cskip' (kthn (hK15 _ _ ?_))
       clear hK15
       refine cseq ?_; intro K18 hK18
       refine creg ?_
       refine ymv ?_
       refine yas ?_
       refine ynil' (kthn (hK18 _ _ ?_))
       clear hK18
       refine cret ?_
       first
         | (exfalso; omega; done)
         | (refine kretv Tryz.results68 rfl (L1 := [stoP s t ps S, celsP ps q S.cs, dev q D] ++ R) zge ?_
            rw [hst]; exact ⟨_, ⟨rfl, rfl⟩, rfl⟩)
         | (refine kretv Tryz.results68 rfl (L1 := [sc s _ 128, celsP ps q _, dev q _] ++ R) zge ?_
            rw [hst]; refine ⟨_, ⟨rfl, ?_⟩, rfl⟩; simp [stoP])
         | (refine kretv Tryz.results68 rfl (L1 := [sc s _ 128, celsP ps q S.cs, dev q D] ++ R) zge ?_
            rw [hst]; exact ⟨_, ⟨rfl, rfl⟩, rfl⟩)
     clear hK13
     refine cdrawN 16 (.op 0 0 (.op 1 1 (.op 2 0 (.op 3 1 (.op 5 0 (.op 7 0 (.op 8 1 (.fork 4 (.fork 6 (.op 9 2 (.op 10 0 (.op 11 2 (.op 12 0 (.op 13 0 (.op 14 0 (.op 15 0 (.nil)))))))) 9 (.op 6 2 (.op 10 0 (.op 11 2 (.op 12 0 (.op 13 0 (.op 14 0 (.op 15 0 (.nil))))))))) 9 (.op 4 2 (.op 6 2 (.op 10 0 (.op 11 2 (.op 12 0 (.op 13 0 (.op 14 0 (.op 15 0 (.nil))))))))))))))))) (_) Tryz.mixed (by kernel_rfl) .refl ?_
     refine nz rfl (ev_fieldAddr 0 rfl Tryz.underlying72 rfl Tryz.sizeOf2) rfl ?_
     refine nr rfl (ev_load rfl Tryz.isAgg2 zin rfl) rfl ?_
     refine nz rfl (ev_fieldAddr 1 rfl Tryz.underlying72 rfl Tryz.sizeOf2) rfl ?_
     refine nr rfl (ev_load rfl Tryz.isAgg2 zin rfl) rfl ?_
     refine nz rfl (ev_slA rfl Tryz.underlying35 Tryz.sizeOf2) rfl ?_
     refine nz rfl (ev_fieldAddr 11 rfl Tryz.underlying37 rfl Tryz.sizeOf9) rfl ?_
     refine nr rfl (ev_load rfl Tryz.isAgg9 zin rfl) rfl ?_
     refine nfork ?_ ?_
     ·skip
      refine na rfl (ac_bsliceR rfl Tryz.underlying53 Tryz.sizeOf2 Tryz.zeroValue2 rfl rfl rfl rfl ⟨⟨_, _, rfl, (by first | rfl | simp), (by first | decide | simp)⟩, ⟨⟨_, _, rfl, (by first | rfl | simp), (by first | decide | simp)⟩, trivial⟩⟩ (by dsimp [fillL, splice, vcells, reps] <;> rfl)) rfl ?_
      rintro v L' ⟨b86, rfl, rfl⟩; refine ⟨zge, ?_⟩
      refine nfork ?_ ?_
      ·skip
       refine na rfl (ac_append (s := some (b86, 2, [])) (xs := [i64 m.epoch, i64 m.seq]) (m := 2) (k := 4) (us := intsV (tabUp S.tab m)) (size := 1) rfl rfl (by repeat first | exact .z | apply Pk.s) Tryz.underlying53 Tryz.underlying53 (by intro q hq; cases hq) Tryz.typeInfo2 rfl rfl rfl ?ok80 ?src80 ?one80 ?big80) rfl ?_
       case ok80 => exact ⟨Nat.le_refl _, by decide, rfl, rfl⟩
       case src80 => exact RdV.src (rdV_in (k := 4) zin (by simp [intsV, htl]) (by rw [List.drop_zero, List.take_of_length_le (by simp [intsV, htl])])) (by simp [intsV, htl])
       case one80 => exact intsV_one _
       case big80 => decide
       rintro v L' ⟨s88, rfl, ok88, rfl⟩; refine ⟨zge, ?_⟩
       obtain ⟨b88, c88, sp88, rfl, hc88⟩ := sv_some ok88 (by decide)
       refine na rfl (ac_bsliceR rfl Tryz.underlying98 Tryz.sizeOf9 Tryz.zeroValue9 rfl rfl rfl rfl ⟨⟨_, _, rfl, (by first | rfl | simp), (by first | decide | simp)⟩, trivial⟩ (by dsimp [fillL, splice, vcells, reps] <;> rfl)) rfl ?_
       rintro v L' ⟨b91, rfl, rfl⟩; refine ⟨zge, ?_⟩
       refine nz rfl (ev_build (zs := _) rfl Tryz.underlying100 Tryz.zeroValue100 rfl (.cons Tryz.sizeOf3 (.cons Tryz.sizeOf53 (.cons Tryz.sizeOf98 .nil))) ⟨⟨_, _, rfl, (by first | rfl | simp), (by first | decide | simp)⟩, ⟨⟨_, _, rfl, (by first | rfl | simp), (by first | decide | simp)⟩, ⟨⟨_, _, rfl, (by first | rfl | simp), (by first | decide | simp)⟩, trivial⟩⟩⟩ (by dsimp [fillL, splice, vcells] <;> rfl)) rfl ?_
       refine ncall rfl (cEncode (r := blkR m.epoch m.seq (tabUp S.tab m) m.data) ?hn83 ?ht83 ?sx83) rfl Tryz.call88 ztk rfl ?_
       case hn83 => rw [hnl, hne]; exact rdV_sv (s := some (b88, c88, sp88)) zin ok88
       case ht83 => exact rdV_in zin rfl rfl
       case sx83 => exact hbm.num
       rintro v L' ⟨s93, rfl, ok93, rfl⟩; refine ⟨zge, ?_⟩
       rw [henc] at ok93 ⊢; dsimp only at ok93 ⊢
       obtain ⟨rb, hrb⟩ : ∃ rb, recB (blkR m.epoch m.seq (tabUp S.tab m) m.data) = rb := ⟨_, rfl⟩
       rw [hrb] at ok93 hst hbl ⊢
       clear hrb henc
       refine nz rfl (ev_move rfl) rfl ?_
       refine nz rfl (ev_extract rfl rfl) rfl ?_
       refine nz rfl (ev_extract rfl rfl) rfl ?_
       refine nz rfl (ev_assign rfl) rfl ?_
       refine nnil ?_
       refine yas ?_
       refine hnoP' (kthn ?_)
       first
         | (exfalso; omega; done)
         | exact ksub zsub zge (hJr14 (b88, c88, s93, rb) (⟨ok93, hst⟩))
      ·skip
       refine na rfl (ac_bsliceR rfl Tryz.underlying98 Tryz.sizeOf9 Tryz.zeroValue9 rfl rfl rfl rfl ⟨⟨_, _, rfl, (by first | rfl | simp), (by first | decide | simp)⟩, trivial⟩ (by dsimp [fillL, splice, vcells, reps] <;> rfl)) rfl ?_
       rintro v L' ⟨b91, rfl, rfl⟩; refine ⟨zge, ?_⟩
       refine na rfl (ac_append (s := some (b86, 2, [])) (xs := [i64 m.epoch, i64 m.seq]) (m := 2) (k := 4) (us := intsV (tabUp S.tab m)) (size := 1) rfl rfl (by repeat first | exact .z | apply Pk.s) Tryz.underlying53 Tryz.underlying53 (by intro q hq; cases hq) Tryz.typeInfo2 rfl rfl rfl ?ok90 ?src90 ?one90 ?big90) rfl ?_
       case ok90 => exact ⟨Nat.le_refl _, by decide, rfl, rfl⟩
       case src90 => exact RdV.src (rdV_in (k := 4) zin (by simp [intsV, htl]) (by rw [List.drop_zero, List.take_of_length_le (by simp [intsV, htl])])) (by simp [intsV, htl])
       case one90 => exact intsV_one _
       case big90 => decide
       rintro v L' ⟨s88, rfl, ok88, rfl⟩; refine ⟨zge, ?_⟩
       obtain ⟨b88, c88, sp88, rfl, hc88⟩ := sv_some ok88 (by decide)
       refine nz rfl (ev_build (zs := _) rfl Tryz.underlying100 Tryz.zeroValue100 rfl (.cons Tryz.sizeOf3 (.cons Tryz.sizeOf53 (.cons Tryz.sizeOf98 .nil))) ⟨⟨_, _, rfl, (by first | rfl | simp), (by first | decide | simp)⟩, ⟨⟨_, _, rfl, (by first | rfl | simp), (by first | decide | simp)⟩, ⟨⟨_, _, rfl, (by first | rfl | simp), (by first | decide | simp)⟩, trivial⟩⟩⟩ (by dsimp [fillL, splice, vcells] <;> rfl)) rfl ?_
       refine ncall rfl (cEncode (r := blkR m.epoch m.seq (tabUp S.tab m) m.data) ?hn92 ?ht92 ?sx92) rfl Tryz.call88 ztk rfl ?_
       case hn92 => rw [hnl, hne]; exact rdV_sv (s := some (b88, c88, sp88)) zin ok88
       case ht92 => exact rdV_in zin rfl rfl
       case sx92 => exact hbm.num
       rintro v L' ⟨s93, rfl, ok93, rfl⟩; refine ⟨zge, ?_⟩
       rw [henc] at ok93 ⊢; dsimp only at ok93 ⊢
       obtain ⟨rb, hrb⟩ : ∃ rb, recB (blkR m.epoch m.seq (tabUp S.tab m) m.data) = rb := ⟨_, rfl⟩
       rw [hrb] at ok93 hst hbl ⊢
       clear hrb henc
       refine nz rfl (ev_move rfl) rfl ?_
       refine nz rfl (ev_extract rfl rfl) rfl ?_
       refine nz rfl (ev_extract rfl rfl) rfl ?_
       refine nz rfl (ev_assign rfl) rfl ?_
       refine nnil ?_
       refine yas ?_
       refine hnoP' (kthn ?_)
       first
         | (exfalso; omega; done)
         | exact ksub zsub zge (hJr14 (b88, c88, s93, rb) (⟨ok93, hst⟩))
     ·skip
      refine na rfl (ac_bsliceR rfl Tryz.underlying98 Tryz.sizeOf9 Tryz.zeroValue9 rfl rfl rfl rfl ⟨⟨_, _, rfl, (by first | rfl | simp), (by first | decide | simp)⟩, trivial⟩ (by dsimp [fillL, splice, vcells, reps] <;> rfl)) rfl ?_
      rintro v L' ⟨b91, rfl, rfl⟩; refine ⟨zge, ?_⟩
      refine na rfl (ac_bsliceR rfl Tryz.underlying53 Tryz.sizeOf2 Tryz.zeroValue2 rfl rfl rfl rfl ⟨⟨_, _, rfl, (by first | rfl | simp), (by first | decide | simp)⟩, ⟨⟨_, _, rfl, (by first | rfl | simp), (by first | decide | simp)⟩, trivial⟩⟩ (by dsimp [fillL, splice, vcells, reps] <;> rfl)) rfl ?_
      rintro v L' ⟨b86, rfl, rfl⟩; refine ⟨zge, ?_⟩
      refine na rfl (ac_append (s := some (b86, 2, [])) (xs := [i64 m.epoch, i64 m.seq]) (m := 2) (k := 4) (us := intsV (tabUp S.tab m)) (size := 1) rfl rfl (by repeat first | exact .z | apply Pk.s) Tryz.underlying53 Tryz.underlying53 (by intro q hq; cases hq) Tryz.typeInfo2 rfl rfl rfl ?ok100 ?src100 ?one100 ?big100) rfl ?_
      case ok100 => exact ⟨Nat.le_refl _, by decide, rfl, rfl⟩
      case src100 => exact RdV.src (rdV_in (k := 4) zin (by simp [intsV, htl]) (by rw [List.drop_zero, List.take_of_length_le (by simp [intsV, htl])])) (by simp [intsV, htl])
      case one100 => exact intsV_one _
      case big100 => decide
      rintro v L' ⟨s88, rfl, ok88, rfl⟩; refine ⟨zge, ?_⟩
      obtain ⟨b88, c88, sp88, rfl, hc88⟩ := sv_some ok88 (by decide)
      refine nz rfl (ev_build (zs := _) rfl Tryz.underlying100 Tryz.zeroValue100 rfl (.cons Tryz.sizeOf3 (.cons Tryz.sizeOf53 (.cons Tryz.sizeOf98 .nil))) ⟨⟨_, _, rfl, (by first | rfl | simp), (by first | decide | simp)⟩, ⟨⟨_, _, rfl, (by first | rfl | simp), (by first | decide | simp)⟩, ⟨⟨_, _, rfl, (by first | rfl | simp), (by first | decide | simp)⟩, trivial⟩⟩⟩ (by dsimp [fillL, splice, vcells] <;> rfl)) rfl ?_
      refine ncall rfl (cEncode (r := blkR m.epoch m.seq (tabUp S.tab m) m.data) ?hn102 ?ht102 ?sx102) rfl Tryz.call88 ztk rfl ?_
      case hn102 => rw [hnl, hne]; exact rdV_sv (s := some (b88, c88, sp88)) zin ok88
      case ht102 => exact rdV_in zin rfl rfl
      case sx102 => exact hbm.num
      rintro v L' ⟨s93, rfl, ok93, rfl⟩; refine ⟨zge, ?_⟩
      rw [henc] at ok93 ⊢; dsimp only at ok93 ⊢
      obtain ⟨rb, hrb⟩ : ∃ rb, recB (blkR m.epoch m.seq (tabUp S.tab m) m.data) = rb := ⟨_, rfl⟩
      rw [hrb] at ok93 hst hbl ⊢
      clear hrb henc
      refine nz rfl (ev_move rfl) rfl ?_
      refine nz rfl (ev_extract rfl rfl) rfl ?_
      refine nz rfl (ev_extract rfl rfl) rfl ?_
      refine nz rfl (ev_assign rfl) rfl ?_
      refine nnil ?_
      refine yas ?_
      refine hnoP' (kthn ?_)
      first
        | (exfalso; omega; done)
        | exact ksub zsub zge (hJr14 (b88, c88, s93, rb) (⟨ok93, hst⟩))
    clear hK12
    refine cseq ?_; intro K19 hK19
    refine creg ?_
    refine y (ev_fieldAddr 5 rfl Tryz.underlying37 rfl Tryz.sizeOf3) rfl ?_
    refine y (ev_load rfl Tryz.isAgg3 zin rfl) rfl ?_
    refine y (ev_geq rfl rfl) rfl ?_
    refine ynil' (kthn (hK19 _ _ ?_))
    clear hK19
    refine ccond rfl (fun h111 => ?_) (fun h111 => ?_)
    ·(try simp only [sH] at h111)
     refine cdraw 10 [(0, true), (1, true), (2, true), (3, true), (4, true), (5, true), (6, true), (7, true), (8, true), (9, true)] (_) Tryz.mixed (by kernel_rfl) .refl ?_
     refine hr rfl (ev_fieldAddr 5 rfl Tryz.underlying37 rfl Tryz.sizeOf3) rfl ?_
     refine hr rfl (ev_load rfl Tryz.isAgg3 zin rfl) rfl ?_
     refine hr rfl (ev_fieldAddr 5 rfl Tryz.underlying37 rfl Tryz.sizeOf3) rfl ?_
     refine hr rfl (ev_load rfl Tryz.isAgg3 zin rfl) rfl ?_
     refine hr rfl (ev_ixAddrA rfl rfl Tryz.underlying35 Tryz.sizeOf2 (by omega) (by omega)) rfl ?_
     refine hr rfl (ev_load rfl Tryz.isAgg2 zin (by rw [Nat.mul_one, Nat.zero_add]; exact intsV_get (getd_get (d := 0) (by omega)))) rfl ?_
     refine hr rfl (ev_fieldAddr 3 rfl Tryz.underlying37 rfl Tryz.sizeOf2) rfl ?_
     refine hr rfl (ev_load rfl Tryz.isAgg2 zin rfl) rfl ?_
     refine hr rfl (ev_max rfl rfl) rfl ?_
     rw [show (if m.n > mt.getD m.client.toNat 0 then m.n else mt.getD m.client.toNat 0) = max (mt.getD m.client.toNat 0) m.n by split <;> omega]
     refine hr rfl (ev_ixAddrA rfl rfl Tryz.underlying35 Tryz.sizeOf2 (by omega) (by omega)) rfl ?_
     refine hnil ?_
     refine ya0 (ac_store (vs' := intsV (tabUp S.tab m)) rfl rfl rfl Tryz.sizeOf2 zrp (by simp [intsV]; omega) (by rw [Nat.mul_one, Nat.zero_add, intsV_set]; unfold tabUp; rw [if_pos (by omega), hmte])) ?_
     rintro v L' ⟨rfl, rfl⟩
     refine hnoP' (kthn ?_)
     exact ksub zsub zge (hJr13 () trivial)
    ·(try simp only [sH] at h111)
     have hte : tabUp S.tab m = mt := by unfold tabUp; rw [if_neg (by omega), hmte]
     rw [← hte]
     refine cskip' (kthn ?_)
     exact ksub zsub zge (hJr13 () trivial)
   clear hK9
   refine cseq ?_; intro K20 hK20
   refine cdraw 27 [(0, true), (1, true), (2, true), (3, true), (4, true), (5, true), (6, true), (7, true), (8, true), (9, true), (10, true), (11, true), (12, true), (13, true), (14, true), (15, true), (16, true), (17, true), (18, true), (19, true), (20, true), (21, true), (22, true), (23, true), (24, true), (25, true), (26, true)] (_) Tryz.mixed (by kernel_rfl) .refl ?_
   refine hr rfl (ev_fieldAddr 0 rfl Tryz.underlying72 rfl Tryz.sizeOf2) rfl ?_
   refine hr rfl (ev_load rfl Tryz.isAgg2 zin rfl) rfl ?_
   refine hr rfl (ev_move rfl) rfl ?_
   refine hr rfl (ev_nil rfl) rfl ?_
   refine hr rfl (ev_fieldAddr 1 rfl Tryz.underlying125 rfl Tryz.sizeOf72) rfl ?_
   refine hr rfl (ev_fieldAddr 0 rfl Tryz.underlying72 rfl Tryz.sizeOf2) rfl ?_
   refine hr rfl (ev_load rfl Tryz.isAgg2 zin (sto_at (r := 1) hrow (by decide))) rfl ?_
   refine hr rfl (ev_lss rfl rfl) rfl ?_
   refine hr rfl (ev_move rfl) rfl ?_
   refine hsplit 41 rfl (fun h132 => ?_) (fun h132 => ?_)
   ·(try simp only [sH] at h132)
    refine hr0 rfl rfl rfl rfl rfl ?_
    refine hr0 rfl rfl rfl rfl rfl ?_
    refine hr0 rfl rfl rfl rfl rfl ?_
    refine hr0 rfl rfl rfl rfl rfl ?_
    refine hr0 rfl rfl rfl rfl rfl ?_
    refine hr0 rfl rfl rfl rfl rfl ?_
    refine hr0 rfl rfl rfl rfl rfl ?_
    refine hr0 rfl rfl rfl rfl rfl ?_
    refine hr0 rfl rfl rfl rfl rfl ?_
    refine hr0u rfl rfl rfl rfl ?_
    refine hr0u rfl rfl rfl rfl ?_
    refine hr0u rfl rfl rfl rfl ?_
    refine hr0u rfl rfl rfl rfl ?_
    refine hr0u rfl rfl rfl rfl ?_
    refine hr0u rfl rfl rfl rfl ?_
    refine hr0u rfl rfl rfl rfl ?_
    refine hr0u rfl rfl rfl rfl ?_
    refine hr0 rfl rfl rfl rfl rfl ?_
    refine hnil ?_
    refine ypa ?_
    refine hnoP' (kthn (hK20 _ _ ?_))
    clear hK20
    refine ccond1 rfl ?_
    refine cseq ?_; intro K21 hK21
    refine creg ?_
    have hst : S.store D m = (0, S, D) := by unfold StoM.store; rw [if_neg (by rw [hin]; decide), if_neg (by omega), if_pos (by rw [hgb]; omega)]
    refine yas ?_
    refine ynil' (kthn (hK21 _ _ ?_))
    clear hK21
    refine cret (kthr ?_)
    first
      | (exfalso; omega; done)
      | (refine kretv Tryz.results68 rfl (L1 := [stoP s t ps S, celsP ps q S.cs, dev q D] ++ R) zge ?_
         rw [hst]; exact ⟨_, ⟨rfl, rfl⟩, rfl⟩)
      | (refine kretv Tryz.results68 rfl (L1 := [sc s _ 128, celsP ps q _, dev q _] ++ R) zge ?_
         rw [hst]; refine ⟨_, ⟨rfl, ?_⟩, rfl⟩; simp [stoP])
      | (refine kretv Tryz.results68 rfl (L1 := [sc s _ 128, celsP ps q S.cs, dev q D] ++ R) zge ?_
         rw [hst]; exact ⟨_, ⟨rfl, rfl⟩, rfl⟩)
   ·(try simp only [sH] at h132)
    refine hr1 rfl rfl rfl (ev_fieldAddr 0 rfl Tryz.underlying72 rfl Tryz.sizeOf2) rfl ?_
    refine hr1 rfl rfl rfl (ev_load rfl Tryz.isAgg2 zin rfl) rfl ?_
    refine hr1 rfl rfl rfl (ev_move rfl) rfl ?_
    refine hr1 rfl rfl rfl (ev_nil rfl) rfl ?_
    refine hr1 rfl rfl rfl (ev_fieldAddr 1 rfl Tryz.underlying125 rfl Tryz.sizeOf72) rfl ?_
    refine hr1 rfl rfl rfl (ev_fieldAddr 0 rfl Tryz.underlying72 rfl Tryz.sizeOf2) rfl ?_
    refine hr1 rfl rfl rfl (ev_load rfl Tryz.isAgg2 zin (sto_at (r := 1) hrow (by decide))) rfl ?_
    refine hr1 rfl rfl rfl (ev_eql rfl rfl) rfl ?_
    refine hr1 rfl rfl rfl (ev_move rfl) rfl ?_
    refine hsplit 50 rfl (fun h144 => ?_) (fun h144 => ?_)
    ·(try simp only [sH] at h144)
     refine hr1 rfl rfl rfl (ev_fieldAddr 1 rfl Tryz.underlying72 rfl Tryz.sizeOf2) rfl ?_
     refine hr1 rfl rfl rfl (ev_load rfl Tryz.isAgg2 zin rfl) rfl ?_
     refine hr1 rfl rfl rfl (ev_move rfl) rfl ?_
     refine hr1 rfl rfl rfl (ev_nil rfl) rfl ?_
     refine hr1 rfl rfl rfl (ev_fieldAddr 1 rfl Tryz.underlying125 rfl Tryz.sizeOf72) rfl ?_
     refine hr1 rfl rfl rfl (ev_fieldAddr 1 rfl Tryz.underlying72 rfl Tryz.sizeOf2) rfl ?_
     refine hr1 rfl rfl rfl (ev_load rfl Tryz.isAgg2 zin (sto_at (r := 2) hrow (by decide))) rfl ?_
     refine hr1 rfl rfl rfl (ev_leq rfl rfl) rfl ?_
     refine hr1 rfl rfl rfl (ev_pick1 rfl rfl) rfl ?_
     refine hnil ?_
     refine ypb ?_
     refine hnoP' (kthn (hK20 _ _ ?_))
     clear hK20
     refine ccond rfl (fun h155 => ?_) (fun h155 => ?_)
     ·(try simp only [sH] at h155)
      refine cseq ?_; intro K22 hK22
      refine creg ?_
      have hst : S.store D m = (0, S, D) := by unfold StoM.store; rw [if_neg (by rw [hin]; decide), if_neg (by omega), if_pos (by rw [hgb]; omega)]
      refine yas ?_
      refine ynil' (kthn (hK22 _ _ ?_))
      clear hK22
      refine cret (kthr ?_)
      first
        | (exfalso; omega; done)
        | (refine kretv Tryz.results68 rfl (L1 := [stoP s t ps S, celsP ps q S.cs, dev q D] ++ R) zge ?_
           rw [hst]; exact ⟨_, ⟨rfl, rfl⟩, rfl⟩)
        | (refine kretv Tryz.results68 rfl (L1 := [sc s _ 128, celsP ps q _, dev q _] ++ R) zge ?_
           rw [hst]; refine ⟨_, ⟨rfl, ?_⟩, rfl⟩; simp [stoP])
        | (refine kretv Tryz.results68 rfl (L1 := [sc s _ 128, celsP ps q S.cs, dev q D] ++ R) zge ?_
           rw [hst]; exact ⟨_, ⟨rfl, rfl⟩, rfl⟩)
     ·(try simp only [sH] at h155)
      refine cskip' (kthn ?_)
      first
        | (exfalso; omega; done)
        | exact ksub zsub zge (hJr9 () (by rw [hgb]; omega))
    ·(try simp only [sH] at h144)
     refine hr0 rfl rfl rfl rfl rfl ?_
     refine hr0 rfl rfl rfl rfl rfl ?_
     refine hr0 rfl rfl rfl rfl rfl ?_
     refine hr0 rfl rfl rfl rfl rfl ?_
     refine hr0 rfl rfl rfl rfl rfl ?_
     refine hr0 rfl rfl rfl rfl rfl ?_
     refine hr0 rfl rfl rfl rfl rfl ?_
     refine hr0 rfl rfl rfl rfl rfl ?_
     refine hr1 rfl rfl rfl (ev_pick0 rfl rfl) rfl ?_
     refine hnil ?_
     refine ypb ?_
     refine hnoP' (kthn (hK20 _ _ ?_))
     clear hK20
     refine ccond0 rfl ?_
     refine cskip' (kthn ?_)
     first
       | (exfalso; omega; done)
       | exact ksub zsub zge (hJr9 () (by rw [hgb]; omega))
end W
end Go.Proofs
