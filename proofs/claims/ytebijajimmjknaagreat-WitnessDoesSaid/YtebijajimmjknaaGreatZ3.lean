/- A part of the proof: contracts and plain lemmas, each without conditions beyond those that it names. -/
import Derived.Test.YtebijajimmjknaaGreatZ2
set_option linter.unusedVariables false
set_option linter.unusedSimpArgs false
set_option linter.constructorNameAsVariable false
namespace Go.Proofs
open Go Go.Sl
namespace W
set_option linter.unusedVariables false
theorem xLost [Env] {R : List Seg} {s c b p la : Nat} {W : WitM} {E : RDev} {fr : Int} {m : MsgM} (hW : RWok W E) (hf : fr = 0 ∨ fr = 1) (hm : m.ok) :
    Con Tryz.prog 53 [ptr s, i64 fr, .agg m.cells.toArray] [rwS s c (lsV b) W, rwL b W.f, rcelP c p W.c, rdev p la E] R (fun u L' => ∃ b', u = i64 (W.lostR E fr m).1 ∧ L' = [rwS s c (lsV b') (W.lostR E fr m).2.1, rwL b' (W.lostR E fr m).2.1.f, rcelP c p (W.lostR E fr m).2.1.c, rdev p la (W.lostR E fr m).2.2]) := by
  have hmn := hm.n
  have hmask := hW.f.mask
  have hin := rInB_in hmask (node := 1 - fr) (by omega)
  have hout := rOut hmask hf
  refine con_enter Tryz.func53 Tryz.ntmps53 rfl rfl ?_
  unfold rwS rwL
  refine cseq ?_; intro K1 hK1
  refine creg ?_
  refine ya (ac_box (vs := m.cells) rfl rfl) rfl ?_
  rintro v L' ⟨b5, rfl, rfl⟩
  refine y (ev_assign rfl) rfl ?_
  refine ynil' (kthn (hK1 _ _ ?_))
  clear hK1
  refine cseq ?_; intro K2 hK2
  refine cseq ?_; intro K3 hK3
  refine cdraw 9 [(0, true), (1, true), (2, true), (3, true), (4, true), (5, true), (6, true), (7, true), (8, true)] (_) Tryz.mixed (by kernel_rfl) .refl ?_
  have hrd : RdV [sc b [i64 W.f.l0, i64 W.f.l1] 2] (lsV b) 2 [i64 W.f.l0, i64 W.f.l1] := rdV_in .z rfl rfl
  have hget : ([i64 W.f.l0, i64 W.f.l1] : List Value)[fr.toNat]? = some (i64 (W.f.loss fr)) := by rcases hf with rfl | rfl <;> rfl
  refine hr rfl (ev_fieldAddr 3 rfl Tryz.underlying37 rfl Tryz.sizeOf2) rfl ?_
  refine hr rfl (ev_load rfl Tryz.isAgg2 zin rfl) rfl ?_
  refine hr rfl (ev_move rfl) rfl ?_
  refine hr rfl (ev_nil rfl) rfl ?_
  refine hr rfl (ev_fieldAddr 5 rfl Tryz.underlying55 rfl Tryz.sizeOf53) rfl ?_
  refine hr rfl (ev_load rfl Tryz.isAgg53 zin rfl) rfl ?_
  refine hr rfl (ev_move rfl) rfl ?_
  refine hr rfl (ev_ixV hrd rfl rfl Tryz.underlying53 Tryz.sizeOf2 (by omega) (by omega)) rfl ?_
  refine hr rfl (ev_loadV fr.toNat hrd zge rfl Tryz.isAgg2 (by simp) hget) rfl ?_
  refine hnil ?_
  refine y (ev_leq rfl rfl) rfl ?_
  refine hnoP' (kthn (hK3 _ _ ?_))
  clear hK3
  refine ccond rfl (fun h13 => ?_) (fun h13 => ?_)
  ·(try simp only [sH] at h13)
   refine cseq ?_; intro K4 hK4
   refine creg ?_
   have hlo : W.lostR E fr m = (0, W, E) := by unfold WitM.lostR; rw [if_pos (by omega)]
   refine y (ev_assign rfl) rfl ?_
   refine ynil' (kthn (hK4 _ _ ?_))
   clear hK4
   refine cret (kthr ?_)
   first
     | (exfalso; omega; done)
     | (refine kretv Tryz.results53 rfl (L1 := [sc s _ 55, sc b _ 2, rcelP c p _, rdev p la _] ++ R) zge ?_
        rw [hlo]; exact ⟨_, ⟨b, rfl, rfl⟩, rfl⟩)
  ·(try simp only [sH] at h13)
   refine cskip' (kthn (hK2 _ _ ?_))
   clear hK2
   refine cseq ?_; intro K5 hK5
   refine creg ?_
   have hlo : W.lostR E fr m = W.putR E (W.f.lose fr m.n) := by unfold WitM.lostR; rw [if_neg (by omega)]
   have hfo : (W.f.lose fr m.n).ok := by
     have a := hW.f.l0; have d := hW.f.l1
     have hq : ¬ m.n ≤ W.f.loss fr := by omega
     unfold FactM.loss at hq
     refine ⟨hW.f.epoch, by simp [FactM.lose], ?_, hW.f.change, ?_, ?_⟩
     · simp only [FactM.lose]; split
       · rename_i h0; exact outM_ok hW.f.mask h0
       · exact hW.f.mask
     · simp only [FactM.lose]; rcases hf with rfl | rfl
       · rw [if_pos rfl] at hq ⊢; omega
       · rw [if_neg (by decide)]; exact a
     · simp only [FactM.lose]; rcases hf with rfl | rfl
       · rw [if_pos rfl]; exact d
       · rw [if_neg (by decide)] at hq ⊢; omega
   have hlz : W.f.lose fr m.n = ⟨W.f.epoch, -1, if inM W.f.mask (1 - fr) = true then 2 - fr else W.f.mask, W.f.change, if fr = 0 then m.n else W.f.l0, if fr = 0 then W.f.l1 else m.n⟩ := by unfold FactM.lose; rw [hout]
   refine y (ev_move rfl) rfl ?_
   refine y (ev_nil rfl) rfl ?_
   refine y (ev_fieldAddr 3 rfl Tryz.underlying55 rfl Tryz.sizeOf3) rfl ?_
   refine y (ev_load rfl Tryz.isAgg3 zin rfl) rfl ?_
   refine y (ev_assign rfl) rfl ?_
   refine ynil' (kthn (hK5 _ _ ?_))
   clear hK5
   refine cseq ?_; intro K6 hK6
   have hJr6 : ∀ x : Int, ((if inM W.f.mask (1 - fr) = true then 2 - fr else W.f.mask) = x) → Sk 61 K6 ([(7, i64 x), (5, ptr b5), (0, ptr s), (1, i64 fr)]) ([sc b5 m.cells 37, sc s [ptr c, i64 W.f.epoch, i64 W.f.holder, i64 W.f.mask, i64 W.f.change, lsV b, i64 W.left, i64 W.wait] 55, sc b [i64 W.f.l0, i64 W.f.l1] 2, rcelP c p W.c, rdev p la E] ++ R) := by
    rintro mk hIr6
    refine hK6 _ _ ?_
    have hmk := hIr6; rw [hmk] at hlz; rw [hlz] at hlo hfo
    refine cseq ?_; intro K7 hK7
    refine cdraw 8 [(0, true), (1, true), (2, true), (3, true), (4, true), (5, true), (6, true), (7, true)] ([sc b5 m.cells 37, sc s [ptr c, i64 W.f.epoch, i64 W.f.holder, i64 W.f.mask, i64 W.f.change, lsV b, i64 W.left, i64 W.wait] 55, sc b [i64 W.f.l0, i64 W.f.l1] 2] ++ R) Tryz.mixed (by kernel_rfl) zge ?_
    refine hr rfl (ev_fieldAddr 3 rfl Tryz.underlying37 rfl Tryz.sizeOf2) rfl ?_
    refine hr rfl (ev_load rfl Tryz.isAgg2 zin rfl) rfl ?_
    refine hr rfl (ev_move rfl) rfl ?_
    refine hr rfl (ev_nil rfl) rfl ?_
    refine hr rfl (ev_fieldAddr 5 rfl Tryz.underlying55 rfl Tryz.sizeOf53) rfl ?_
    refine hr rfl (ev_load rfl Tryz.isAgg53 zin rfl) rfl ?_
    refine hr rfl (ev_ixV hrd rfl rfl Tryz.underlying53 Tryz.sizeOf2 (by omega) (by omega)) rfl ?_
    refine hr rfl (ev_loadV 1 hrd zge rfl Tryz.isAgg2 rfl rfl) rfl ?_
    refine hnil ?_
    refine ya (ac_bsliceR (vs := [i64 m.n, i64 W.f.l1]) rfl Tryz.underlying53 Tryz.sizeOf2 Tryz.zeroValue2 rfl rfl rfl rfl ⟨⟨_, _, rfl, (by first | rfl | simp), (by first | decide | simp)⟩, ⟨⟨_, _, rfl, (by first | rfl | simp), (by first | decide | simp)⟩, trivial⟩⟩ (by dsimp [fillL, splice, vcells, reps] <;> rfl)) rfl ?_
    rintro v L' ⟨b37, rfl, rfl⟩
    refine y (ev_assign rfl) rfl ?_
    refine hnoP' (kthn (hK7 _ _ ?_))
    clear hK7
    refine cseq ?_; intro K8 hK8
    refine cseq ?_; intro K9 hK9
    refine creg ?_
    refine y (ev_move rfl) rfl ?_
    refine y (ev_eql rfl rfl) rfl ?_
    refine ynil' (kthn (hK9 _ _ ?_))
    clear hK9
    refine ccond rfl (fun h32 => ?_) (fun h32 => ?_)
    ·(try simp only [sH] at h32)
     have hf1 : ¬ fr = 0 := by omega
     rw [if_neg hf1, if_neg hf1] at hlz hlo hfo
     let g0 : Int := W.f.l0
     let g1 : Int := m.n
     refine cdraw 8 [(0, true), (1, true), (2, true), (3, true), (4, true), (5, true), (6, true), (7, true)] ([sc b5 m.cells 37, sc s [ptr c, i64 W.f.epoch, i64 W.f.holder, i64 W.f.mask, i64 W.f.change, lsV b, i64 W.left, i64 W.wait] 55, sc b [i64 W.f.l0, i64 W.f.l1] 2] ++ R) Tryz.mixed (by kernel_rfl) zge ?_
     refine hr rfl (ev_move rfl) rfl ?_
     refine hr rfl (ev_nil rfl) rfl ?_
     refine hr rfl (ev_fieldAddr 5 rfl Tryz.underlying55 rfl Tryz.sizeOf53) rfl ?_
     refine hr rfl (ev_load rfl Tryz.isAgg53 zin rfl) rfl ?_
     refine hr rfl (ev_ixV hrd rfl rfl Tryz.underlying53 Tryz.sizeOf2 (by omega) (by omega)) rfl ?_
     refine hr rfl (ev_loadV 0 hrd zge rfl Tryz.isAgg2 rfl rfl) rfl ?_
     refine hr rfl (ev_fieldAddr 3 rfl Tryz.underlying37 rfl Tryz.sizeOf2) rfl ?_
     refine hr rfl (ev_load rfl Tryz.isAgg2 zin rfl) rfl ?_
     refine hnil ?_
     refine ya (ac_bsliceR (vs := [i64 W.f.l0, i64 m.n]) rfl Tryz.underlying53 Tryz.sizeOf2 Tryz.zeroValue2 rfl rfl rfl rfl ⟨⟨_, _, rfl, (by first | rfl | simp), (by first | decide | simp)⟩, ⟨⟨_, _, rfl, (by first | rfl | simp), (by first | decide | simp)⟩, trivial⟩⟩ (by dsimp [fillL, splice, vcells, reps] <;> rfl)) rfl ?_
     rintro v L' ⟨b48, rfl, rfl⟩
     refine y (ev_assign rfl) rfl ?_
     refine hnoP' (kthn (hK8 _ _ ?_))
     clear hK8
     refine cseq ?_; intro K10 hK10
     refine cdraw 11 [(0, true), (1, true), (2, true), (3, true), (4, true), (5, true), (6, true), (7, true), (8, true), (9, true), (10, true)] ([sc s _ 55] ++ R) Tryz.mixed (by kernel_rfl) zge ?_
     first | (let bx : Nat := b48) | (let bx : Nat := b37)
     refine hr rfl (ev_move rfl) rfl ?_
     refine hr rfl (ev_move rfl) rfl ?_
     refine hr rfl (ev_nil rfl) rfl ?_
     refine hr rfl (ev_fieldAddr 1 rfl Tryz.underlying55 rfl Tryz.sizeOf2) rfl ?_
     refine hr rfl (ev_load rfl Tryz.isAgg2 zin rfl) rfl ?_
     refine hr rfl (ev_move rfl) rfl ?_
     refine hr rfl (ev_move rfl) rfl ?_
     refine hr rfl (ev_nil rfl) rfl ?_
     refine hr rfl (ev_fieldAddr 4 rfl Tryz.underlying55 rfl Tryz.sizeOf2) rfl ?_
     refine hr rfl (ev_load rfl Tryz.isAgg2 zin rfl) rfl ?_
     refine hr rfl (ev_move rfl) rfl ?_
     refine hnil ?_
     refine ycall (xPut (W := W) (f := ⟨W.f.epoch, -1, mk, W.f.change, g0, g1⟩) ?wok54 ?fok54 ?lv54) rfl Tryz.call83 ztk rfl ?_
     case wok54 => exact hW
     case fok54 => exact hfo
     case lv54 => exact rdV_in zin rfl rfl
     rintro v L' ⟨rfl, rfl⟩
     obtain ⟨r, hr0⟩ : ∃ r, W.putR E ⟨W.f.epoch, -1, mk, W.f.change, g0, g1⟩ = r := ⟨_, rfl⟩
     have hrf : r.2.1.f = if r.1 = 0 then ⟨W.f.epoch, -1, mk, W.f.change, g0, g1⟩ else W.f := by rw [← hr0]; rfl
     have hlo2 : W.lostR E fr m = r := hlo.trans hr0
     rw [hr0]
     (by_cases hq : r.1 = 0; (rw [if_pos hq] at hrf ⊢; let bz : Nat := bx); rotate_left; (rw [if_neg hq] at hrf ⊢; let bz : Nat := b); rotate_left)
     ·skip
      refine y (ev_assign rfl) rfl ?_
      refine hnoP' (kthn (hK10 _ _ ?_))
      clear hK10
      refine cret ?_
      first
        | (exfalso; omega; done)
        | (refine kretv Tryz.results53 rfl (L1 := [rwS s c (lsV bz) _, sc bz _ 2, rcelP c p _, rdev p la _] ++ R) zge ?_
           rw [hlo2]; refine ⟨_, ⟨bz, rfl, ?_⟩, rfl⟩; have e0 := congrArg FactM.l0 hrf; have e1 := congrArg FactM.l1 hrf; rw [e0, e1]; first | done | rfl)
     ·skip
      refine y (ev_assign rfl) rfl ?_
      refine hnoP' (kthn (hK10 _ _ ?_))
      clear hK10
      refine cret ?_
      first
        | (exfalso; omega; done)
        | (refine kretv Tryz.results53 rfl (L1 := [rwS s c (lsV bz) _, sc bz _ 2, rcelP c p _, rdev p la _] ++ R) zge ?_
           rw [hlo2]; refine ⟨_, ⟨bz, rfl, ?_⟩, rfl⟩; have e0 := congrArg FactM.l0 hrf; have e1 := congrArg FactM.l1 hrf; rw [e0, e1]; first | done | rfl)
    ·(try simp only [sH] at h32)
     have hf0 : fr = 0 := by omega
     rw [if_pos hf0, if_pos hf0] at hlz hlo hfo
     let g0 : Int := m.n
     let g1 : Int := W.f.l1
     refine cskip' (kthn (hK8 _ _ ?_))
     clear hK8
     refine cseq ?_; intro K11 hK11
     refine cdraw 11 [(0, true), (1, true), (2, true), (3, true), (4, true), (5, true), (6, true), (7, true), (8, true), (9, true), (10, true)] ([sc s _ 55] ++ R) Tryz.mixed (by kernel_rfl) zge ?_
     first | (let bx : Nat := b48) | (let bx : Nat := b37)
     refine hr rfl (ev_move rfl) rfl ?_
     refine hr rfl (ev_move rfl) rfl ?_
     refine hr rfl (ev_nil rfl) rfl ?_
     refine hr rfl (ev_fieldAddr 1 rfl Tryz.underlying55 rfl Tryz.sizeOf2) rfl ?_
     refine hr rfl (ev_load rfl Tryz.isAgg2 zin rfl) rfl ?_
     refine hr rfl (ev_move rfl) rfl ?_
     refine hr rfl (ev_move rfl) rfl ?_
     refine hr rfl (ev_nil rfl) rfl ?_
     refine hr rfl (ev_fieldAddr 4 rfl Tryz.underlying55 rfl Tryz.sizeOf2) rfl ?_
     refine hr rfl (ev_load rfl Tryz.isAgg2 zin rfl) rfl ?_
     refine hr rfl (ev_move rfl) rfl ?_
     refine hnil ?_
     refine ycall (xPut (W := W) (f := ⟨W.f.epoch, -1, mk, W.f.change, g0, g1⟩) ?wok68 ?fok68 ?lv68) rfl Tryz.call83 ztk rfl ?_
     case wok68 => exact hW
     case fok68 => exact hfo
     case lv68 => exact rdV_in zin rfl rfl
     rintro v L' ⟨rfl, rfl⟩
     obtain ⟨r, hr0⟩ : ∃ r, W.putR E ⟨W.f.epoch, -1, mk, W.f.change, g0, g1⟩ = r := ⟨_, rfl⟩
     have hrf : r.2.1.f = if r.1 = 0 then ⟨W.f.epoch, -1, mk, W.f.change, g0, g1⟩ else W.f := by rw [← hr0]; rfl
     have hlo2 : W.lostR E fr m = r := hlo.trans hr0
     rw [hr0]
     (by_cases hq : r.1 = 0; (rw [if_pos hq] at hrf ⊢; let bz : Nat := bx); rotate_left; (rw [if_neg hq] at hrf ⊢; let bz : Nat := b); rotate_left)
     ·skip
      refine y (ev_assign rfl) rfl ?_
      refine hnoP' (kthn (hK11 _ _ ?_))
      clear hK11
      refine cret ?_
      first
        | (exfalso; omega; done)
        | (refine kretv Tryz.results53 rfl (L1 := [rwS s c (lsV bz) _, sc bz _ 2, rcelP c p _, rdev p la _] ++ R) zge ?_
           rw [hlo2]; refine ⟨_, ⟨bz, rfl, ?_⟩, rfl⟩; have e0 := congrArg FactM.l0 hrf; have e1 := congrArg FactM.l1 hrf; rw [e0, e1]; first | done | rfl)
     ·skip
      refine y (ev_assign rfl) rfl ?_
      refine hnoP' (kthn (hK11 _ _ ?_))
      clear hK11
      refine cret ?_
      first
        | (exfalso; omega; done)
        | (refine kretv Tryz.results53 rfl (L1 := [rwS s c (lsV bz) _, sc bz _ 2, rcelP c p _, rdev p la _] ++ R) zge ?_
           rw [hlo2]; refine ⟨_, ⟨bz, rfl, ?_⟩, rfl⟩; have e0 := congrArg FactM.l0 hrf; have e1 := congrArg FactM.l1 hrf; rw [e0, e1]; first | done | rfl)
   clear hK6
   refine cseq ?_; intro K12 hK12
   refine creg ?_
   refine y (ev_move rfl) rfl ?_
   refine y (ev_move rfl) rfl ?_
   refine y (ev_sub rfl rfl) rfl ?_
   rw [wr (by omega) (by omega)]
   refine ycall (x14In) rfl Tryz.call82 ztk rfl ?_
   rintro v L' ⟨rfl, rfl⟩
   rw [hin]
   refine ynil' (kthn (hK12 _ _ ?_))
   clear hK12
   refine ccond rfl (fun h75 => ?_) (fun h75 => ?_)
   ·(try simp only [sH] at h75)
    have hmk0 : (if inM W.f.mask (1 - fr) = true then 2 - fr else W.f.mask) = 2 - fr := if_pos h75
    refine creg ?_
    refine y (ev_move rfl) rfl ?_
    refine y (ev_sub rfl rfl) rfl ?_
    rw [wr (by omega) (by omega)]
    refine y (ev_assign rfl) rfl ?_
    refine ynil' (kthn ?_)
    exact ksub zsub zge (hJr6 _ hmk0)
   ·(try simp only [sH] at h75)
    have hmk0 : (if inM W.f.mask (1 - fr) = true then 2 - fr else W.f.mask) = W.f.mask := if_neg (fun hc => by rw [h75] at hc; cases hc)
    refine cskip' (kthn ?_)
    exact ksub zsub zge (hJr6 _ hmk0)
theorem xTake [Env] {R : List Seg} {s c b p la : Nat} {W : WitM} {E : RDev} {fr : Int} {m : MsgM} (hW : RWok W E) :
    Con Tryz.prog 12 [ptr s, i64 fr, .agg m.cells.toArray] [rwS s c (lsV b) W, rwL b W.f, rcelP c p W.c, rdev p la E] R (fun u L' => ∃ b', u = .tuple #[.agg (W.takeR E fr m).1.1.cells.toArray, .bool (W.takeR E fr m).1.2] ∧ L' = [rwS s c (lsV b') (W.takeR E fr m).2.1, rwL b' (W.takeR E fr m).2.1.f, rcelP c p (W.takeR E fr m).2.1.c, rdev p la (W.takeR E fr m).2.2]) := by
  refine con_enter Tryz.func12 Tryz.ntmps12 rfl rfl ?_
  refine cseq ?_; intro K1 hK1
  refine creg ?_
  refine ya (ac_box (vs := m.cells) rfl rfl) rfl ?_
  rintro v L' ⟨b5, rfl, rfl⟩
  refine ya (ac_alloc Tryz.zeroValue37 rfl) rfl ?_
  rintro v L' ⟨b6, rfl, rfl⟩
  refine y (ev_assign rfl) rfl ?_
  refine ynil' (kthn (hK1 _ _ ?_))
  clear hK1
  refine cseq ?_; intro K2 hK2
  refine cseq ?_; intro K3 hK3
  refine creg ?_
  refine y (ev_move rfl) rfl ?_
  refine y (ev_lss rfl rfl) rfl ?_
  refine y (ev_move rfl) rfl ?_
  refine ysplit 12 rfl (fun h85 => ?_) (fun h85 => ?_)
  ·(try simp only [sH] at h85)
   refine yg0 rfl rfl rfl rfl ?_
   refine yg0 rfl rfl rfl rfl ?_
   refine y (ev_pick1 rfl rfl) rfl ?_
   refine y (ev_move rfl) rfl ?_
   refine yg0 rfl rfl rfl rfl ?_
   refine yg0 rfl rfl rfl rfl ?_
   refine yg0 rfl rfl rfl rfl ?_
   refine y (ev_pick1 rfl rfl) rfl ?_
   refine ynil' (kthn (hK3 _ _ ?_))
   clear hK3
   refine ccond1 rfl ?_
   refine cseq ?_; intro K4 hK4
   refine creg ?_
   have htk : W.takeR E fr m = ((.zero, false), W, E) := by unfold WitM.takeR; rw [if_pos]; first | omega | (right; right; simp_all)
   refine y (ev_build (zs := _) rfl Tryz.underlying37 Tryz.zeroValue37 rfl (.cons Tryz.sizeOf3 (.cons Tryz.sizeOf2 (.cons Tryz.sizeOf2 (.cons Tryz.sizeOf2 (.cons Tryz.sizeOf3 (.cons Tryz.sizeOf3 (.cons Tryz.sizeOf29 (.cons Tryz.sizeOf35 (.cons Tryz.sizeOf9 (.cons Tryz.sizeOf9 .nil)))))))))) trivial (by dsimp [fillL, splice, vcells] <;> rfl)) rfl ?_
   refine ya0 (ac_storeN rfl rfl (msg_one MsgM.zero) Tryz.sizeOf37 zrp rfl (by simp [MsgM.cells]) rfl) ?_
   rintro v L' ⟨rfl, rfl⟩
   refine y (ev_assign rfl) rfl ?_
   refine ynil' (kthn (hK4 _ _ ?_))
   clear hK4
   refine cret (kthr ?_)
   first
     | (exfalso; omega; done)
     | (refine kretct Tryz.results12 rfl rfl Tryz.isAgg37 Tryz.sizeOf37 zin (rfl) (L1 := [rwS s c (lsV b) _, rwL b _, rcelP c p _, rdev p la _] ++ R) zge ?_
        rw [htk]; exact ⟨_, ⟨b, rfl, rfl⟩, rfl⟩)
  ·(try simp only [sH] at h85)
   refine yg1 rfl rfl ?_
   refine y (ev_move rfl) rfl ?_
   refine yg1 rfl rfl ?_
   refine y (ev_gtr rfl rfl) rfl ?_
   refine y (ev_pick0 rfl rfl) rfl ?_
   refine y (ev_move rfl) rfl ?_
   refine ysplit 16 rfl (fun h96 => ?_) (fun h96 => ?_)
   ·(try simp only [sH] at h96)
    refine yg0 rfl rfl rfl rfl ?_
    refine yg0 rfl rfl rfl rfl ?_
    refine yg0 rfl rfl rfl rfl ?_
    refine y (ev_pick1 rfl rfl) rfl ?_
    refine ynil' (kthn (hK3 _ _ ?_))
    clear hK3
    refine ccond1 rfl ?_
    refine cseq ?_; intro K5 hK5
    refine creg ?_
    have htk : W.takeR E fr m = ((.zero, false), W, E) := by unfold WitM.takeR; rw [if_pos]; first | omega | (right; right; simp_all)
    refine y (ev_build (zs := _) rfl Tryz.underlying37 Tryz.zeroValue37 rfl (.cons Tryz.sizeOf3 (.cons Tryz.sizeOf2 (.cons Tryz.sizeOf2 (.cons Tryz.sizeOf2 (.cons Tryz.sizeOf3 (.cons Tryz.sizeOf3 (.cons Tryz.sizeOf29 (.cons Tryz.sizeOf35 (.cons Tryz.sizeOf9 (.cons Tryz.sizeOf9 .nil)))))))))) trivial (by dsimp [fillL, splice, vcells] <;> rfl)) rfl ?_
    refine ya0 (ac_storeN rfl rfl (msg_one MsgM.zero) Tryz.sizeOf37 zrp rfl (by simp [MsgM.cells]) rfl) ?_
    rintro v L' ⟨rfl, rfl⟩
    refine y (ev_assign rfl) rfl ?_
    refine ynil' (kthn (hK5 _ _ ?_))
    clear hK5
    refine cret (kthr ?_)
    first
      | (exfalso; omega; done)
      | (refine kretct Tryz.results12 rfl rfl Tryz.isAgg37 Tryz.sizeOf37 zin (rfl) (L1 := [rwS s c (lsV b) _, rwL b _, rcelP c p _, rdev p la _] ++ R) zge ?_
         rw [htk]; exact ⟨_, ⟨b, rfl, rfl⟩, rfl⟩)
   ·(try simp only [sH] at h96)
    refine yg1 rfl rfl ?_
    refine y (ev_loadAll rfl Tryz.isAgg37 Tryz.sizeOf37 zin (by first | rfl | assumption | (simp [*]; done) | (simp [*]; omega))) rfl ?_
    refine yg1 rfl rfl ?_
    refine ycall (x11May (m := m)) rfl Tryz.call50 ztk rfl ?_
    rintro v L' ⟨rfl, rfl⟩
    refine yg1 rfl rfl ?_
    refine y (ev_not rfl) rfl ?_
    refine y (ev_pick0 rfl rfl) rfl ?_
    refine ynil' (kthn (hK3 _ _ ?_))
    clear hK3
    refine ccond rfl (fun h105 => ?_) (fun h105 => ?_)
    ·(try simp only [sH] at h105)
     refine cseq ?_; intro K6 hK6
     refine creg ?_
     have htk : W.takeR E fr m = ((.zero, false), W, E) := by unfold WitM.takeR; rw [if_pos]; first | omega | (right; right; simp_all)
     refine y (ev_build (zs := _) rfl Tryz.underlying37 Tryz.zeroValue37 rfl (.cons Tryz.sizeOf3 (.cons Tryz.sizeOf2 (.cons Tryz.sizeOf2 (.cons Tryz.sizeOf2 (.cons Tryz.sizeOf3 (.cons Tryz.sizeOf3 (.cons Tryz.sizeOf29 (.cons Tryz.sizeOf35 (.cons Tryz.sizeOf9 (.cons Tryz.sizeOf9 .nil)))))))))) trivial (by dsimp [fillL, splice, vcells] <;> rfl)) rfl ?_
     refine ya0 (ac_storeN rfl rfl (msg_one MsgM.zero) Tryz.sizeOf37 zrp rfl (by simp [MsgM.cells]) rfl) ?_
     rintro v L' ⟨rfl, rfl⟩
     refine y (ev_assign rfl) rfl ?_
     refine ynil' (kthn (hK6 _ _ ?_))
     clear hK6
     refine cret (kthr ?_)
     first
       | (exfalso; omega; done)
       | (refine kretct Tryz.results12 rfl rfl Tryz.isAgg37 Tryz.sizeOf37 zin (rfl) (L1 := [rwS s c (lsV b) _, rwL b _, rcelP c p _, rdev p la _] ++ R) zge ?_
          rw [htk]; exact ⟨_, ⟨b, rfl, rfl⟩, rfl⟩)
    ·(try simp only [sH] at h105)
     refine cskip' (kthn (hK2 _ _ ?_))
     clear hK2
     refine cseq ?_; intro K7 hK7
     refine creg ?_
     have hmay : m.may = true := by simp_all
     have hmok := MsgM.ok_of hmay
     have hfr : fr = 0 ∨ fr = 1 := by omega
     have hg : ¬ (fr < 0 ∨ 1 < fr ∨ m.may = false) := by rw [hmay]; simp; omega
     refine y (ev_assign rfl) rfl ?_
     refine ynil' (kthn (hK7 _ _ ?_))
     clear hK7
     refine cseq ?_; intro K8 hK8
     refine creg ?_
     refine y (ev_fieldAddr 0 rfl Tryz.underlying37 rfl Tryz.sizeOf3) rfl ?_
     refine y (ev_load rfl Tryz.isAgg3 zin rfl) rfl ?_
     refine y (ev_assign rfl) rfl ?_
     refine ynil' (kthn (hK8 _ _ ?_))
     clear hK8
     refine cseq ?_; intro K9 hK9
     have hJr14 : ∀ x : (Int × WitM × RDev) × Nat × Int, (W.handleR E fr m = some x.1 ∧ (if m.kind = 1 then 2 else m.kind) = x.2.2) → Sk 65 K9 ([(9, i64 x.2.2), (8, i64 x.1.1), (6, ptr b6), (5, ptr b5), (0, ptr s)]) ([sc b5 m.cells 37, sc b6 MsgM.zero.cells 37, rwS s c (lsV x.2.1) x.1.2.1, rwL x.2.1 x.1.2.1.f, rcelP c p x.1.2.1.c, rdev p la x.1.2.2] ++ R) := by
      rintro ⟨r, b2, kd⟩ hIr14
      refine hK9 _ _ ?_
      obtain ⟨hhd, has⟩ := hIr14; dsimp only at hhd has ⊢
      refine cseq ?_; intro K10 hK10
      refine cseq ?_; intro K11 hK11
      refine creg ?_
      refine y (ev_move rfl) rfl ?_
      refine y (ev_eql rfl rfl) rfl ?_
      refine ynil' (kthn (hK11 _ _ ?_))
      clear hK11
      refine ccond rfl (fun h115 => ?_) (fun h115 => ?_)
      ·(try simp only [sH] at h115)
       have htk : W.takeR E fr m = ((.zero, false), r.2.1, r.2.2) := by unfold WitM.takeR; rw [if_neg hg, hhd]; dsimp only; rw [if_pos h115]
       refine cseq ?_; intro K12 hK12
       refine creg ?_
       refine y (ev_build (zs := _) rfl Tryz.underlying37 Tryz.zeroValue37 rfl (.cons Tryz.sizeOf3 (.cons Tryz.sizeOf2 (.cons Tryz.sizeOf2 (.cons Tryz.sizeOf2 (.cons Tryz.sizeOf3 (.cons Tryz.sizeOf3 (.cons Tryz.sizeOf29 (.cons Tryz.sizeOf35 (.cons Tryz.sizeOf9 (.cons Tryz.sizeOf9 .nil)))))))))) trivial (by dsimp [fillL, splice, vcells] <;> rfl)) rfl ?_
       refine ya0 (ac_storeN rfl rfl (msg_one MsgM.zero) Tryz.sizeOf37 zrp rfl (by simp [MsgM.cells]) rfl) ?_
       rintro v L' ⟨rfl, rfl⟩
       refine y (ev_assign rfl) rfl ?_
       refine ynil' (kthn (hK12 _ _ ?_))
       clear hK12
       refine cret (kthr ?_)
       first
         | (exfalso; omega; done)
         | (refine kretct Tryz.results12 rfl rfl Tryz.isAgg37 Tryz.sizeOf37 zin (rfl) (L1 := [rwS s c (lsV b2) _, rwL b2 _, rcelP c p _, rdev p la _] ++ R) zge ?_
            rw [htk]; exact ⟨_, ⟨b2, rfl, rfl⟩, rfl⟩)
      ·(try simp only [sH] at h115)
       have htk : W.takeR E fr m = ((r.2.1.answer m r.1, true), r.2.1, r.2.2) := by unfold WitM.takeR; rw [if_neg hg, hhd]; dsimp only; rw [if_neg h115]
       have han : (r.2.1.answer m r.1).cells = [i64 (if m.kind = 1 then 2 else m.kind), i64 r.2.1.f.epoch, i64 r.2.1.f.mask, i64 m.n, i64 (-1), i64 r.2.1.f.holder, i64 r.1, i64 0, i64 0, i64 0, i64 0, str [], str []] := rfl
       rw [has] at han
       refine cskip' (kthn (hK10 _ _ ?_))
       clear hK10
       refine cseq ?_; intro K13 hK13
       refine cdraw 17 [(0, true), (1, true), (2, true), (3, true), (4, true), (5, true), (6, true), (7, true), (8, true), (9, true), (10, true), (11, true), (12, true), (13, true), (14, true), (15, true), (16, true)] (_) Tryz.mixed (by kernel_rfl) .refl ?_
       unfold rwS
       refine hr rfl (ev_move rfl) rfl ?_
       refine hr rfl (ev_move rfl) rfl ?_
       refine hr rfl (ev_nil rfl) rfl ?_
       refine hr rfl (ev_fieldAddr 1 rfl Tryz.underlying55 rfl Tryz.sizeOf2) rfl ?_
       refine hr rfl (ev_load rfl Tryz.isAgg2 zin rfl) rfl ?_
       refine hr rfl (ev_move rfl) rfl ?_
       refine hr rfl (ev_nil rfl) rfl ?_
       refine hr rfl (ev_fieldAddr 3 rfl Tryz.underlying55 rfl Tryz.sizeOf3) rfl ?_
       refine hr rfl (ev_load rfl Tryz.isAgg3 zin rfl) rfl ?_
       refine hr rfl (ev_fieldAddr 3 rfl Tryz.underlying37 rfl Tryz.sizeOf2) rfl ?_
       refine hr rfl (ev_load rfl Tryz.isAgg2 zin rfl) rfl ?_
       refine hr rfl (ev_move rfl) rfl ?_
       refine hr rfl (ev_nil rfl) rfl ?_
       refine hr rfl (ev_fieldAddr 2 rfl Tryz.underlying55 rfl Tryz.sizeOf3) rfl ?_
       refine hr rfl (ev_load rfl Tryz.isAgg3 zin rfl) rfl ?_
       refine hr rfl (ev_move rfl) rfl ?_
       refine hr rfl (ev_build (vs := [i64 kd, i64 r.2.1.f.epoch, i64 r.2.1.f.mask, i64 m.n, i64 (-1), i64 r.2.1.f.holder, i64 r.1, i64 0, i64 0, i64 0, i64 0, str [], str []]) (zs := _) rfl Tryz.underlying37 Tryz.zeroValue37 rfl (.cons Tryz.sizeOf3 (.cons Tryz.sizeOf2 (.cons Tryz.sizeOf2 (.cons Tryz.sizeOf2 (.cons Tryz.sizeOf3 (.cons Tryz.sizeOf3 (.cons Tryz.sizeOf29 (.cons Tryz.sizeOf35 (.cons Tryz.sizeOf9 (.cons Tryz.sizeOf9 .nil)))))))))) ⟨⟨_, _, rfl, (by first | rfl | simp), (by first | decide | simp)⟩, ⟨⟨_, _, rfl, (by first | rfl | simp), (by first | decide | simp)⟩, ⟨⟨_, _, rfl, (by first | rfl | simp), (by first | decide | simp)⟩, ⟨⟨_, _, rfl, (by first | rfl | simp), (by first | decide | simp)⟩, ⟨⟨_, _, rfl, (by first | rfl | simp), (by first | decide | simp)⟩, ⟨⟨_, _, rfl, (by first | rfl | simp), (by first | decide | simp)⟩, ⟨⟨_, _, rfl, (by first | rfl | simp), (by first | decide | simp)⟩, trivial⟩⟩⟩⟩⟩⟩⟩ (by dsimp [fillL, splice, vcells] <;> rfl)) rfl ?_
       refine hnil ?_
       refine ya0 (ac_storeN rfl rfl (by intro u hu; rw [← han] at hu; exact msg_one _ u hu) Tryz.sizeOf37 zrp rfl (by simp [MsgM.cells]) rfl) ?_
       rintro v L' ⟨rfl, rfl⟩
       refine y (ev_assign rfl) rfl ?_
       refine hnoP' (kthn (hK13 _ _ ?_))
       clear hK13
       refine cret ?_
       first
         | (exfalso; omega; done)
         | (refine kretct Tryz.results12 rfl rfl Tryz.isAgg37 Tryz.sizeOf37 zin (rfl) (L1 := [sc s _ 55, rwL b2 _, rcelP c p _, rdev p la _] ++ R) zge ?_
            rw [htk]; dsimp only; rw [han]; exact ⟨_, ⟨b2, rfl, rfl⟩, rfl⟩)
     clear hK9
     refine cseq ?_; intro K14 hK14
     refine creg ?_
     refine y (ev_fieldAddr 0 rfl Tryz.underlying37 rfl Tryz.sizeOf3) rfl ?_
     refine y (ev_load rfl Tryz.isAgg3 zin rfl) rfl ?_
     refine ynil' (kthn (hK14 _ _ ?_))
     clear hK14
     refine cblock ?_
     refine cseq ?_; intro K15 hK15
     refine creg ?_
     refine y (ev_eql rfl rfl) rfl ?_
     refine y (ev_assign rfl) rfl ?_
     refine ynil' (kthn (hK15 _ _ ?_))
     clear hK15
     refine ccond rfl (fun h142 => ?_) (fun h142 => ?_)
     ·(try simp only [sH] at h142)
      have hhd : W.handleR E fr m = some (W.askR E fr m) := by unfold WitM.handleR; rw [if_pos (by omega)]
      have has : (if m.kind = 1 then 2 else m.kind) = 2 := by rw [if_pos (by omega)]
      refine cseq ?_; intro K16 hK16
      refine creg ?_
      refine y (ev_move rfl) rfl ?_
      refine y (ev_move rfl) rfl ?_
      refine y (ev_loadAll rfl Tryz.isAgg37 Tryz.sizeOf37 zin (by first | rfl | assumption | (simp [*]; done) | (simp [*]; omega))) rfl ?_
      refine ycall (xAsk (m := m) hW hfr) rfl Tryz.call51 ztk rfl ?_
      rintro v L' ⟨rfl, rfl⟩
      generalize W.askR E fr m = r at *
      have hb0 : ∃ b2 : Nat, b2 = b := ⟨b, rfl⟩
      obtain ⟨b2, rfl⟩ := hb0
      refine y (ev_assign rfl) rfl ?_
      refine ynil' (kthn (hK16 _ _ ?_))
      clear hK16
      refine creg ?_
      refine y (ev_assign rfl) rfl ?_
      refine ynil' (kbn (kthn ?_))
      exact ksub zsub zge (hJr14 (r, b2, _) ⟨hhd, has⟩)
     ·(try simp only [sH] at h142)
      have has : (if m.kind = 1 then 2 else m.kind) = m.kind := by rw [if_neg (by omega)]
      refine cseq ?_; intro K17 hK17
      refine creg ?_
      refine y (ev_eql rfl rfl) rfl ?_
      refine y (ev_assign rfl) rfl ?_
      refine ynil' (kthn (hK17 _ _ ?_))
      clear hK17
      refine ccond rfl (fun h151 => ?_) (fun h151 => ?_)
      ·(try simp only [sH] at h151)
       have hhd : W.handleR E fr m = some (W.changedR E fr m) := by unfold WitM.handleR; rw [if_neg (by omega), if_pos (by omega)]
       refine creg ?_
       refine y (ev_move rfl) rfl ?_
       refine y (ev_move rfl) rfl ?_
       refine y (ev_loadAll rfl Tryz.isAgg37 Tryz.sizeOf37 zin (by first | rfl | assumption | (simp [*]; done) | (simp [*]; omega))) rfl ?_
       refine ycall (xChanged (m := m) hW hfr hmok) rfl Tryz.call52 ztk rfl ?_
       rintro v L' ⟨rfl, rfl⟩
       generalize W.changedR E fr m = r at *
       have hb0 : ∃ b2 : Nat, b2 = b := ⟨b, rfl⟩
       obtain ⟨b2, rfl⟩ := hb0
       refine y (ev_assign rfl) rfl ?_
       refine ynil' (kbn (kthn ?_))
       exact ksub zsub zge (hJr14 (r, b2, _) ⟨hhd, has⟩)
      ·(try simp only [sH] at h151)
       refine cseq ?_; intro K18 hK18
       refine creg ?_
       refine y (ev_eql rfl rfl) rfl ?_
       refine y (ev_assign rfl) rfl ?_
       refine ynil' (kthn (hK18 _ _ ?_))
       clear hK18
       refine ccond rfl (fun h159 => ?_) (fun h159 => ?_)
       ·(try simp only [sH] at h159)
        have hhd : W.handleR E fr m = some (W.lostR E fr m) := by unfold WitM.handleR; rw [if_neg (by omega), if_neg (by omega), if_pos (by omega)]
        refine creg ?_
        refine y (ev_move rfl) rfl ?_
        refine y (ev_move rfl) rfl ?_
        refine y (ev_loadAll rfl Tryz.isAgg37 Tryz.sizeOf37 zin (by first | rfl | assumption | (simp [*]; done) | (simp [*]; omega))) rfl ?_
        refine ycall (xLost (m := m) hW hfr hmok) rfl Tryz.call53 ztk rfl ?_
        rintro v L' ⟨b2, rfl, rfl⟩
        generalize W.lostR E fr m = r at *
        refine y (ev_assign rfl) rfl ?_
        refine ynil' (kbn (kthn ?_))
        exact ksub zsub zge (hJr14 (r, b2, _) ⟨hhd, has⟩)
       ·(try simp only [sH] at h159)
        have hhd : W.handleR E fr m = none := by unfold WitM.handleR; rw [if_neg (by omega), if_neg (by omega), if_neg (by omega)]
        have htk : W.takeR E fr m = ((.zero, false), W, E) := by unfold WitM.takeR; rw [if_neg hg, hhd]
        refine cseq ?_; intro K19 hK19
        refine creg ?_
        refine y (ev_build (zs := _) rfl Tryz.underlying37 Tryz.zeroValue37 rfl (.cons Tryz.sizeOf3 (.cons Tryz.sizeOf2 (.cons Tryz.sizeOf2 (.cons Tryz.sizeOf2 (.cons Tryz.sizeOf3 (.cons Tryz.sizeOf3 (.cons Tryz.sizeOf29 (.cons Tryz.sizeOf35 (.cons Tryz.sizeOf9 (.cons Tryz.sizeOf9 .nil)))))))))) trivial (by dsimp [fillL, splice, vcells] <;> rfl)) rfl ?_
        refine ya0 (ac_storeN rfl rfl (msg_one MsgM.zero) Tryz.sizeOf37 zrp rfl (by simp [MsgM.cells]) rfl) ?_
        rintro v L' ⟨rfl, rfl⟩
        refine y (ev_assign rfl) rfl ?_
        refine ynil' (kthn (hK19 _ _ ?_))
        clear hK19
        refine cret (kbr (kthr ?_))
        first
          | (exfalso; omega; done)
          | (refine kretct Tryz.results12 rfl rfl Tryz.isAgg37 Tryz.sizeOf37 zin (rfl) (L1 := [rwS s c (lsV b) _, rwL b _, rcelP c p _, rdev p la _] ++ R) zge ?_
             rw [htk]; exact ⟨_, ⟨b, rfl, rfl⟩, rfl⟩)
end W
end Go.Proofs
