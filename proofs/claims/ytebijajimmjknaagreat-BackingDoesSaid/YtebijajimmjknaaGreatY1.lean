/- A part of the proof: contracts and plain lemmas, each without conditions beyond those that it names. -/
import Derived.Test.YtebijajimmjknaaGreatS4
import Derived.Test.YtebijajimmjknaaGreatGE
set_option linter.unusedVariables false
set_option linter.unusedSimpArgs false
set_option linter.constructorNameAsVariable false
namespace Go.Proofs
open Go Go.Sl
theorem Tryz.zrc : Tryz.zeroCells118 = (rsV zrs).toArray := by kernel_rfl
theorem zrsL : (rsV zrs).length = 289 := rsV_length zrs_ok
theorem Tryz.zrz : Tryz.zeroCells113 = (bytesV zsec).toArray := by rfl
namespace W
set_option linter.unusedVariables false
def rP (p la : Nat) (D : RDev) : Seg := sc p [.slice (some ⟨la, 0, none⟩) D.l.length D.l.length, .bool D.dead, .int .i64 D.fuse] 86
def rL (la : Nat) (D : RDev) : Seg := sc la (rflat D.l) 118
theorem refNew [Env] {R : List Seg} {n : Nat} (hn : n ≤ 512) : Con Tryz.prog 7 [i64 n] [] R (fun v L' => ∃ p la, v = ptr p ∧ L' = [rP p la (RDev.new n), rL la (RDev.new n)]) := by
 refine con_enter Tryz.func7 Tryz.ntmps7 rfl rfl ?_
 refine cseq ?_; intro K1 hK1
 refine creg ?_
 refine yas ?_
 refine ynil' (kthn (hK1 _ _ ?_))
 clear hK1
 refine cseq ?_; intro K2 hK2
 refine cseq ?_; intro K3 hK3
 refine creg ?_
 refine ymv ?_
 refine y (ev_lss rfl rfl) rfl ?_
 refine ymv ?_
 refine ysplit 5 rfl (fun h5 => ?_) (fun h5 => ?_)
 ·(try simp only [sH] at h5)
  refine ygz ?_
  refine ygz ?_
  refine ypa ?_
  refine ynil' (kthn (hK3 _ _ ?_))
  clear hK3
  refine ccond1 rfl ?_
  refine cseq ?_; intro K4 hK4
  refine creg ?_
  refine yas ?_
  refine ynil' (kthn (hK4 _ _ ?_))
  clear hK4
  refine cret (kthr ?_)
  first
    | (exfalso; omega; done)
    | (refine kretv Tryz.results7 rfl (L1 := [sc _ _ 86, sc _ _ 118] ++ R) zge ?_
       exact ⟨_, ⟨b12, b10, rfl, rfl⟩, by simp [rP, rL, RDev.new, rflat, reps]⟩)
 ·(try simp only [sH] at h5)
  refine ygo ?_
  refine ymv ?_
  refine ygo ?_
  refine y (ev_gtr rfl rfl) rfl ?_
  refine ypb ?_
  refine ynil' (kthn (hK3 _ _ ?_))
  clear hK3
  refine ccond rfl (fun h11 => ?_) (fun h11 => ?_)
  ·(try simp only [sH] at h11)
   refine cseq ?_; intro K5 hK5
   refine creg ?_
   refine yas ?_
   refine ynil' (kthn (hK5 _ _ ?_))
   clear hK5
   refine cret (kthr ?_)
   first
     | (exfalso; omega; done)
     | (refine kretv Tryz.results7 rfl (L1 := [sc _ _ 86, sc _ _ 118] ++ R) zge ?_
        exact ⟨_, ⟨b12, b10, rfl, rfl⟩, by simp [rP, rL, RDev.new, rflat, reps]⟩)
  ·(try simp only [sH] at h11)
   refine cskip' (kthn (hK2 _ _ ?_))
   clear hK2
   refine cseq ?_; intro K6 hK6
   refine creg ?_
   refine ymv ?_
   refine ya (ac_make (zs := rsV zrs) rfl rfl Tryz.underlying84 Tryz.typeInfo118 Tryz.sizeOf118 Tryz.zeroValue118 Tryz.zrc zrsL.symm (by decide) ?lt14 ?big14) rfl ?_
   case lt14 => omega
   case big14 => show 289 * n ≤ _; omega
   rintro v L' ⟨b10, rfl, rfl⟩
   refine y (ev_build (zs := _) rfl Tryz.underlying86 Tryz.zeroValue86 rfl (.cons Tryz.sizeOf84 (.cons Tryz.sizeOf4 (.cons Tryz.sizeOf3 .nil))) ⟨⟨_, _, rfl, (by first | rfl | simp), (by first | decide | simp)⟩, ⟨⟨_, _, rfl, (by first | rfl | simp), (by first | decide | simp)⟩, trivial⟩⟩ (by dsimp [fillL, splice, vcells] <;> rfl)) rfl ?_
   refine ya (ac_box rfl rfl) rfl ?_
   rintro v L' ⟨b12, rfl, rfl⟩
   refine yas ?_
   refine ynil' (kthn (hK6 _ _ ?_))
   clear hK6
   refine cret ?_
   first
     | (exfalso; omega; done)
     | (refine kretv Tryz.results7 rfl (L1 := [sc _ _ 86, sc _ _ 118] ++ R) zge ?_
        exact ⟨_, ⟨b12, b10, rfl, rfl⟩, by simp [rP, rL, RDev.new, rflat, reps]⟩)
theorem refNewNil [Env] {R : List Seg} {n : Int} (hn : n < 0 ∨ 512 < n) : Con Tryz.prog 7 [i64 n] [] R (Is nilP []) := by
 refine con_enter Tryz.func7 Tryz.ntmps7 rfl rfl ?_
 refine cseq ?_; intro K1 hK1
 refine creg ?_
 refine yas ?_
 refine ynil' (kthn (hK1 _ _ ?_))
 clear hK1
 refine cseq ?_; intro K2 hK2
 refine cseq ?_; intro K3 hK3
 refine creg ?_
 refine ymv ?_
 refine y (ev_lss rfl rfl) rfl ?_
 refine ymv ?_
 refine ysplit 5 rfl (fun h22 => ?_) (fun h22 => ?_)
 ·(try simp only [sH] at h22)
  refine ygz ?_
  refine ygz ?_
  refine ypa ?_
  refine ynil' (kthn (hK3 _ _ ?_))
  clear hK3
  refine ccond1 rfl ?_
  refine cseq ?_; intro K4 hK4
  refine creg ?_
  refine yas ?_
  refine ynil' (kthn (hK4 _ _ ?_))
  clear hK4
  refine cret (kthr ?_)
  first
    | (exfalso; omega; done)
    | (refine kretv Tryz.results7 rfl (L1 := _) zge ?_
       exact ⟨_, ⟨by first | rfl | (simp [*]; done) | (simp [*]; omega) | simp_all, rfl⟩, by first | rfl | (simp [*]; done) | (simp [*]; omega) | simp_all⟩)
 ·(try simp only [sH] at h22)
  refine ygo ?_
  refine ymv ?_
  refine ygo ?_
  refine y (ev_gtr rfl rfl) rfl ?_
  refine ypb ?_
  refine ynil' (kthn (hK3 _ _ ?_))
  clear hK3
  refine ccond rfl (fun h28 => ?_) (fun h28 => ?_)
  ·(try simp only [sH] at h28)
   refine cseq ?_; intro K5 hK5
   refine creg ?_
   refine yas ?_
   refine ynil' (kthn (hK5 _ _ ?_))
   clear hK5
   refine cret (kthr ?_)
   first
     | (exfalso; omega; done)
     | (refine kretv Tryz.results7 rfl (L1 := _) zge ?_
        exact ⟨_, ⟨by first | rfl | (simp [*]; done) | (simp [*]; omega) | simp_all, rfl⟩, by first | rfl | (simp [*]; done) | (simp [*]; omega) | simp_all⟩)
  ·(try simp only [sH] at h28)
   exfalso; omega
theorem refSetFuse [Env] {R : List Seg} {p la : Nat} {D : RDev} {i : Int} : Con Tryz.prog 19 [ptr p, i64 i] [rP p la D] R (Is (.tuple #[]) [rP p la (D.setFuse i)]) := by
 unfold rP
 refine con_enter Tryz.func19 Tryz.ntmps19 rfl rfl ?_
 refine cseq ?_; intro K1 hK1
 refine creg ?_
 refine ymv ?_
 refine ymv ?_
 refine yni ?_
 refine y (ev_fieldAddr 2 rfl Tryz.underlying86 rfl Tryz.sizeOf3) rfl ?_
 refine ya0 (ac_store rfl rfl (by first | rfl | exact svVal_one _ _ | assumption) Tryz.sizeOf3 zrp rfl rfl) ?_
 rintro v L' ⟨rfl, rfl⟩
 refine ynil' (kthn (hK1 _ _ ?_))
 clear hK1
 refine cseq ?_; intro K2 hK2
 refine creg ?_
 refine ymv ?_
 refine y (ev_lss rfl rfl) rfl ?_
 refine ynil' (kthn (hK2 _ _ ?_))
 clear hK2
 refine ccond rfl (fun h37 => ?_) (fun h37 => ?_)
 ·(try simp only [sH] at h37)
  refine creg ?_
  refine ymv ?_
  refine yni ?_
  refine y (ev_fieldAddr 2 rfl Tryz.underlying86 rfl Tryz.sizeOf3) rfl ?_
  refine ya0 (ac_store rfl rfl (by first | rfl | exact svVal_one _ _ | assumption) Tryz.sizeOf3 zrp rfl rfl) ?_
  rintro v L' ⟨rfl, rfl⟩
  refine ynil' ?_
  first
    | (exfalso; omega; done)
    | (refine kendv0 Tryz.results19 (L1 := _) zge ?_
       exact ⟨_, ⟨by simp [RDev.setFuse, *], rfl⟩, by simp [RDev.setFuse, *]⟩)
 ·(try simp only [sH] at h37)
  refine cskip' ?_
  first
    | (exfalso; omega; done)
    | (refine kendv0 Tryz.results19 (L1 := _) zge ?_
       exact ⟨_, ⟨by simp [RDev.setFuse, *], rfl⟩, by simp [RDev.setFuse, *]⟩)
theorem refAct [Env] {R : List Seg} {p la : Nat} {D : RDev} : Con Tryz.prog 59 [ptr p] [rP p la D] R (Is (i64 D.act.1) [rP p la D.act.2]) := by
 unfold rP
 refine con_enter Tryz.func59 Tryz.ntmps59 rfl rfl ?_
 refine cseq ?_; intro K1 hK1
 refine creg ?_
 refine yas ?_
 refine ynil' (kthn (hK1 _ _ ?_))
 clear hK1
 refine cseq ?_; intro K2 hK2
 refine cseq ?_; intro K3 hK3
 refine creg ?_
 refine ymv ?_
 refine yni ?_
 refine y (ev_fieldAddr 2 rfl Tryz.underlying86 rfl Tryz.sizeOf3) rfl ?_
 refine y (ev_load rfl Tryz.isAgg3 zin rfl) rfl ?_
 refine y (ev_eql rfl rfl) rfl ?_
 refine ynil' (kthn (hK3 _ _ ?_))
 clear hK3
 refine ccond rfl (fun h48 => ?_) (fun h48 => ?_)
 ·(try simp only [sH] at h48)
  refine cseq ?_; intro K4 hK4
  refine creg ?_
  refine ymv ?_
  refine yni ?_
  refine y (ev_fieldAddr 1 rfl Tryz.underlying86 rfl Tryz.sizeOf4) rfl ?_
  refine ya0 (ac_store rfl rfl (by first | rfl | exact svVal_one _ _ | assumption) Tryz.sizeOf4 zrp rfl rfl) ?_
  rintro v L' ⟨rfl, rfl⟩
  refine ynil' (kthn (hK4 _ _ ?_))
  clear hK4
  refine cseq ?_; intro K5 hK5
  refine creg ?_
  refine yas ?_
  refine ynil' (kthn (hK5 _ _ ?_))
  clear hK5
  refine cret (kthr ?_)
  first
    | (exfalso; omega; done)
    | (refine kretv Tryz.results59 rfl (L1 := _) zge ?_
       exact ⟨_, ⟨by simp [RDev.act, *], rfl⟩, by simp [RDev.act, *]⟩)
 ·(try simp only [sH] at h48)
  refine cskip' (kthn (hK2 _ _ ?_))
  clear hK2
  refine cseq ?_; intro K6 hK6
  refine cseq ?_; intro K7 hK7
  refine creg ?_
  refine ymv ?_
  refine yni ?_
  refine y (ev_fieldAddr 2 rfl Tryz.underlying86 rfl Tryz.sizeOf3) rfl ?_
  refine y (ev_load rfl Tryz.isAgg3 zin rfl) rfl ?_
  refine y (ev_gtr rfl rfl) rfl ?_
  refine ynil' (kthn (hK7 _ _ ?_))
  clear hK7
  refine ccond rfl (fun h59 => ?_) (fun h59 => ?_)
  ·(try simp only [sH] at h59)
   refine creg ?_
   refine ymv ?_
   refine yni ?_
   refine y (ev_fieldAddr 2 rfl Tryz.underlying86 rfl Tryz.sizeOf3) rfl ?_
   refine y (ev_load rfl Tryz.isAgg3 zin rfl) rfl ?_
   refine y (ev_sub rfl rfl) rfl ?_
   refine yni ?_
   refine y (ev_fieldAddr 2 rfl Tryz.underlying86 rfl Tryz.sizeOf3) rfl ?_
   refine ya0 (ac_store rfl rfl (by first | rfl | exact svVal_one _ _ | assumption) Tryz.sizeOf3 zrp rfl rfl) ?_
   rintro v L' ⟨rfl, rfl⟩
   refine ynil' (kthn (hK6 _ _ ?_))
   clear hK6
   refine cseq ?_; intro K8 hK8
   refine creg ?_
   refine yas ?_
   refine ynil' (kthn (hK8 _ _ ?_))
   clear hK8
   refine cret ?_
   first
     | (exfalso; omega; done)
     | (refine kretv Tryz.results59 rfl (L1 := _) zge ?_
        exact ⟨_, ⟨by simp [RDev.act, *], rfl⟩, by simp [RDev.act, *]⟩)
  ·(try simp only [sH] at h59)
   refine cskip' (kthn (hK6 _ _ ?_))
   clear hK6
   refine cseq ?_; intro K9 hK9
   refine creg ?_
   refine yas ?_
   refine ynil' (kthn (hK9 _ _ ?_))
   clear hK9
   refine cret ?_
   first
     | (exfalso; omega; done)
     | (refine kretv Tryz.results59 rfl (L1 := _) zge ?_
        exact ⟨_, ⟨by simp [RDev.act, *], rfl⟩, by simp [RDev.act, *]⟩)
theorem refWriteV [Env] {R : List Seg} {p la : Nat} {D : RDev} {i : Int} {bv : Value} {bs : Bytes} (hD : D.ok) (hb : RdV R bv bs.length (bytesV bs)) :
   Con Tryz.prog 21 [ptr p, i64 i, bv] [rP p la D, rL la D] R (Is (i64 (D.write i bs).1) [rP p la (D.write i bs).2, rL la (D.write i bs).2]) := by
 refine con_enter Tryz.func21 Tryz.ntmps21 rfl rfl ?_
 refine cseq ?_; intro K1 hK1
 refine creg ?_
 refine yas ?_
 refine ynil' (kthn (hK1 _ _ ?_))
 clear hK1
 refine cseq ?_; intro K2 hK2
 refine cseq ?_; intro K3 hK3
 refine creg ?_
 unfold rP rL
 refine ymv ?_
 refine yni ?_
 refine y (ev_fieldAddr 1 rfl Tryz.underlying86 rfl Tryz.sizeOf4) rfl ?_
 refine y (ev_load rfl Tryz.isAgg4 zin rfl) rfl ?_
 refine ynil' (kthn (hK3 _ _ ?_))
 clear hK3
 refine ccond rfl (fun h75 => ?_) (fun h75 => ?_)
 ·(try simp only [sH] at h75)
  refine cseq ?_; intro K4 hK4
  refine creg ?_
  refine yas ?_
  refine ynil' (kthn (hK4 _ _ ?_))
  clear hK4
  refine cret (kthr ?_)
  first
    | (exfalso; omega; done)
    | (refine kretv Tryz.results21 rfl (L1 := [sc p _ _, sc la _ _] ++ R) zge ?_
       exact ⟨_, ⟨by first | rfl | (rw [hwr]; simp [RDev.upd, rP, rL, hal, hup]; done) | (simp [RDev.write, RDev.upd, rP, rL, *]; done), rfl⟩, by first | rfl | (rw [hwr]; simp [RDev.upd, rP, rL, hal, hup]; done) | (simp [RDev.write, RDev.upd, rP, rL, *]; done)⟩)
 ·(try simp only [sH] at h75)
  refine cskip' (kthn (hK2 _ _ ?_))
  clear hK2
  refine cseq ?_; intro K5 hK5
  refine cseq ?_; intro K6 hK6
  refine creg ?_
  refine ymv ?_
  refine y (ev_lss rfl rfl) rfl ?_
  refine ymv ?_
  refine ysplit 16 rfl (fun h80 => ?_) (fun h80 => ?_)
  ·(try simp only [sH] at h80)
   refine ygz ?_
   refine ygz ?_
   refine ygz ?_
   refine ygz ?_
   refine ygz ?_
   refine ygz ?_
   refine ygz ?_
   refine ypa ?_
   refine ynil' (kthn (hK6 _ _ ?_))
   clear hK6
   refine ccond1 rfl ?_
   refine cseq ?_; intro K7 hK7
   refine creg ?_
   refine yas ?_
   refine ynil' (kthn (hK7 _ _ ?_))
   clear hK7
   refine cret (kthr ?_)
   first
     | (exfalso; omega; done)
     | (refine kretv Tryz.results21 rfl (L1 := [sc p _ _, sc la _ _] ++ R) zge ?_
        exact ⟨_, ⟨by first | rfl | (rw [hwr]; simp [RDev.upd, rP, rL, hal, hup]; done) | (simp [RDev.write, RDev.upd, rP, rL, *]; done), rfl⟩, by first | rfl | (rw [hwr]; simp [RDev.upd, rP, rL, hal, hup]; done) | (simp [RDev.write, RDev.upd, rP, rL, *]; done)⟩)
  ·(try simp only [sH] at h80)
   refine ygo ?_
   refine ymv ?_
   refine ygo ?_
   refine ymv ?_
   refine ygo ?_
   refine yni ?_
   refine ygo ?_
   refine y (ev_fieldAddr 0 rfl Tryz.underlying86 rfl Tryz.sizeOf84) rfl ?_
   refine ygo ?_
   refine y (ev_load rfl Tryz.isAgg84 zin rfl) rfl ?_
   refine ygo ?_
   first
     | refine y (ev_len rfl Tryz.underlying84) rfl ?_
     | refine y (ev_lenSv rfl Tryz.underlying84 (by assumption)) rfl ?_
     | refine y (ev_lenV rfl Tryz.underlying84 (RdV.lenVal (by assumption))) rfl ?_
     | refine y (ev_lenV rfl Tryz.underlying84 (RdB.lenVal (by assumption))) rfl ?_
   refine ygo ?_
   refine y (ev_geq rfl rfl) rfl ?_
   refine ypb ?_
   refine ynil' (kthn (hK6 _ _ ?_))
   clear hK6
   refine ccond rfl (fun h91 => ?_) (fun h91 => ?_)
   ·(try simp only [sH] at h91)
    refine cseq ?_; intro K8 hK8
    refine creg ?_
    refine yas ?_
    refine ynil' (kthn (hK8 _ _ ?_))
    clear hK8
    refine cret (kthr ?_)
    first
      | (exfalso; omega; done)
      | (refine kretv Tryz.results21 rfl (L1 := [sc p _ _, sc la _ _] ++ R) zge ?_
         exact ⟨_, ⟨by first | rfl | (rw [hwr]; simp [RDev.upd, rP, rL, hal, hup]; done) | (simp [RDev.write, RDev.upd, rP, rL, *]; done), rfl⟩, by first | rfl | (rw [hwr]; simp [RDev.upd, rP, rL, hal, hup]; done) | (simp [RDev.write, RDev.upd, rP, rL, *]; done)⟩)
   ·(try simp only [sH] at h91)
    refine cskip' (kthn (hK5 _ _ ?_))
    clear hK5
    refine cseq ?_; intro K9 hK9
    refine cseq ?_; intro K10 hK10
    refine creg ?_
    refine ymv ?_
    first
      | refine y (ev_len rfl Tryz.underlying50) rfl ?_
      | refine y (ev_lenSv rfl Tryz.underlying50 (by assumption)) rfl ?_
      | refine y (ev_lenV rfl Tryz.underlying50 (RdV.lenVal (by assumption))) rfl ?_
      | refine y (ev_lenV rfl Tryz.underlying50 (RdB.lenVal (by assumption))) rfl ?_
    refine y (ev_gtr rfl rfl) rfl ?_
    refine ynil' (kthn (hK10 _ _ ?_))
    clear hK10
    refine ccond rfl (fun h96 => ?_) (fun h96 => ?_)
    ·(try simp only [sH] at h96)
     refine cseq ?_; intro K11 hK11
     refine creg ?_
     refine yas ?_
     refine ynil' (kthn (hK11 _ _ ?_))
     clear hK11
     refine cret (kthr ?_)
     first
       | (exfalso; omega; done)
       | (refine kretv Tryz.results21 rfl (L1 := [sc p _ _, sc la _ _] ++ R) zge ?_
          exact ⟨_, ⟨by first | rfl | (rw [hwr]; simp [RDev.upd, rP, rL, hal, hup]; done) | (simp [RDev.write, RDev.upd, rP, rL, *]; done), rfl⟩, by first | rfl | (rw [hwr]; simp [RDev.upd, rP, rL, hal, hup]; done) | (simp [RDev.write, RDev.upd, rP, rL, *]; done)⟩)
    ·(try simp only [sH] at h96)
     refine cskip' (kthn (hK9 _ _ ?_))
     clear hK9
     refine cseq ?_; intro K12 hK12
     refine creg ?_
     show Sy _ _ _ _ _ _ (rP p la D :: rL la D :: R)
     refine ymv ?_
     refine ycall (refAct) rfl Tryz.call59 ztk rfl ?_
     rintro v L' ⟨rfl, rfl⟩
     have hal := ract_l (D := D)
     refine yas ?_
     refine ynil' (kthn (hK12 _ _ ?_))
     clear hK12
     refine cseq ?_; intro K13 hK13
     refine cseq ?_; intro K14 hK14
     refine creg ?_
     refine ymv ?_
     refine y (ev_neq rfl rfl) rfl ?_
     refine ynil' (kthn (hK14 _ _ ?_))
     clear hK14
     refine ccond rfl (fun h103 => ?_) (fun h103 => ?_)
     ·(try simp only [sH] at h103)
      refine cseq ?_; intro K15 hK15
      refine creg ?_
      refine ymv ?_
      refine yas ?_
      refine ynil' (kthn (hK15 _ _ ?_))
      clear hK15
      refine cret (kthr ?_)
      first
        | (exfalso; omega; done)
        | (refine kretv Tryz.results21 rfl (L1 := [sc p _ _, sc la _ _] ++ R) zge ?_
           exact ⟨_, ⟨by first | rfl | (rw [hwr]; simp [RDev.upd, rP, rL, hal, hup]; done) | (simp [RDev.write, RDev.upd, rP, rL, *]; done), rfl⟩, by first | rfl | (rw [hwr]; simp [RDev.upd, rP, rL, hal, hup]; done) | (simp [RDev.write, RDev.upd, rP, rL, *]; done)⟩)
     ·(try simp only [sH] at h103)
      refine cskip' (kthn (hK13 _ _ ?_))
      clear hK13
      refine cseq ?_; intro K16 hK16
      refine creg ?_
      obtain ⟨r, hrr⟩ : ∃ r, D.l[i.toNat]? = some r := ⟨_, List.getElem?_eq_getElem (by omega)⟩
      have hro := hD.sec r (List.mem_of_getElem? hrr)
      refine y (ev_buildA (zs := bytesV zsec) rfl Tryz.underlying113 Tryz.zeroValue113 Tryz.zrz Tryz.sizeOf5 trivial (by dsimp [fillL, splice, vcells] <;> rfl)) rfl ?_
      refine ya (ac_alloc (vs := bytesV zsec) Tryz.zeroValue113 Tryz.zrz) rfl ?_
      rintro v L' ⟨b8, rfl, rfl⟩
      refine ya0 (ac_storeAll rfl rfl (by first | exact bytesV_one _ | (simp [Value.oneCell']; done) | (simp only [List.forall_mem_cons, List.not_mem_nil, false_implies, implies_true, svVal_one, and_true, true_and, and_self]; first | done | simp [Value.oneCell'])) Tryz.sizeOf113 zrp (by first | rfl | assumption | (simp [*]; done) | (simp [*]; omega)) (by first | rfl | assumption | (simp [*]; done) | (simp [*]; omega))) ?_
      rintro v L' ⟨rfl, rfl⟩
      refine ynil' (kthn (hK16 _ _ ?_))
      clear hK16
      refine cseq ?_; intro K17 hK17
      refine cseq ?_; intro K18 hK18
      refine creg ?_
      refine yas ?_
      refine ynil' (kthn (hK18 _ _ ?_))
      clear hK18
      have hJ1 : ∀ x : Nat, ((x ≤ bs.length) ∧ (x = bs.length)) → Sk 61 K17 ([(9, i64 x), (8, ptr b8), (0, ptr p), (1, i64 i), (2, bv)]) ([sc b8 (bytesV (padk bs x)) 113, rP p la D.act.2, rL la D] ++ R) := by
       rintro k ⟨hI1, hX1⟩
       refine hK17 _ _ ?_
       have hk := hI1
       subst hX1; rw [padk_all]; unfold rP rL; rw [hal]
       refine cseq ?_; intro K19 hK19
       refine cdraw 8 [(0, true), (1, true), (2, true), (3, true), (4, true), (5, true), (6, true), (7, true)] (_) Tryz.mixed (by kernel_rfl) .refl ?_
       refine hr rfl (ev_move rfl) rfl ?_
       refine hr rfl (ev_nil rfl) rfl ?_
       refine hr rfl (ev_fieldAddr 0 rfl Tryz.underlying86 rfl Tryz.sizeOf84) rfl ?_
       refine hr rfl (ev_load rfl Tryz.isAgg84 zin rfl) rfl ?_
       refine hr rfl (ev_move rfl) rfl ?_
       refine hr rfl (ev_loadAll rfl Tryz.isAgg113 Tryz.sizeOf113 zin (by rw [bytesV_length]; exact pad_length (by omega))) rfl ?_
       first
         | refine hr rfl (ev_ixAddr rfl rfl Tryz.underlying84 Tryz.sizeOf118 (by omega) (by omega)) rfl ?_
         | refine hr rfl (ev_ixV (by assumption) rfl rfl Tryz.underlying84 Tryz.sizeOf118 (by omega) (by omega)) rfl ?_
       refine hr rfl (ev_fieldAddr 144 rfl Tryz.underlying118 rfl Tryz.sizeOf113) rfl ?_
       refine hnil ?_
       refine ya0 (ac_storeN (vs' := rflat (D.l.set i.toNat { r with p := pad bs })) rfl rfl (bytesV_one _) Tryz.sizeOf113 zrp (by rw [bytesV_length]; exact pad_length (by omega)) (by rw [rflat_length hD.sec]; omega) (by have hpl := pad_length (show bs.length ≤ 144 by omega); have h1 := rflat_splice (o := 144) (us := bytesV (pad bs)) hD.sec hrr (by rw [bytesV_length, hpl]; omega) (rs_p hro hpl); rw [bytesV_length, hpl] at h1; simpa using h1)) ?_
       rintro v L' ⟨rfl, rfl⟩
       refine hnoP' (kthn (hK19 _ _ ?_))
       clear hK19
       refine cseq ?_; intro K20 hK20
       refine creg ?_
       refine ymv ?_
       refine yni ?_
       refine y (ev_fieldAddr 0 rfl Tryz.underlying86 rfl Tryz.sizeOf84) rfl ?_
       refine y (ev_load rfl Tryz.isAgg84 zin rfl) rfl ?_
       refine ymv ?_
       first
         | refine y (ev_ixAddr rfl rfl Tryz.underlying84 Tryz.sizeOf118 (by omega) (by omega)) rfl ?_
         | refine y (ev_ixV (by assumption) rfl rfl Tryz.underlying84 Tryz.sizeOf118 (by omega) (by omega)) rfl ?_
       refine y (ev_fieldAddr 288 rfl Tryz.underlying118 rfl Tryz.sizeOf4) rfl ?_
       refine ya0 (ac_store (vs' := rflat (D.l.set i.toNat { r with p := pad bs, is := true })) rfl rfl rfl Tryz.sizeOf4 zrp (by rw [rflat_length (set_ok hD.sec (show RS.ok { r with p := pad bs } from ⟨hro.1, pad_length (by omega)⟩))]; simp; omega) (rs_store hD.sec hrr hro (pad_length (by omega)) (by omega))) ?_
       rintro v L' ⟨rfl, rfl⟩
       have hup := upd_flat hD.sec hrr (fun r => { r with p := pad bs, is := true })
       have hwr : D.write i bs = (0, D.act.2.upd i fun r => { r with p := pad bs, is := true }) := by
         unfold RDev.write
         rw [if_neg (by simp_all), if_neg (by omega), if_neg (by omega), if_neg (by omega)]
       refine ynil' (kthn (hK20 _ _ ?_))
       clear hK20
       refine cseq ?_; intro K21 hK21
       refine creg ?_
       refine yas ?_
       refine ynil' (kthn (hK21 _ _ ?_))
       clear hK21
       refine cret ?_
       first
         | (exfalso; omega; done)
         | (refine kretv Tryz.results21 rfl (L1 := [sc p _ _, sc la _ _] ++ R) zge ?_
            exact ⟨_, ⟨by first | rfl | (rw [hwr]; simp [RDev.upd, rP, rL, hal, hup]; done) | (simp [RDev.write, RDev.upd, rP, rL, *]; done), rfl⟩, by first | rfl | (rw [hwr]; simp [RDev.upd, rP, rL, hal, hup]; done) | (simp [RDev.write, RDev.upd, rP, rL, *]; done)⟩)
      clear hK17
      refine cblock ?_
      refine cloop (A := Nat) (fun x => [(9, i64 x), (8, ptr b8), (0, ptr p), (1, i64 i), (2, bv)]) (fun x => [sc b8 (bytesV (padk bs x)) 113, rP p la D.act.2, rL la D] ++ R) (fun x => x ≤ bs.length) (fun x => bs.length - x) (0) ?_ zsub zge ?_
      · exact Nat.zero_le _
      rintro k hI1 KL1 hL1
      have hI1o := hI1
      have hk := hI1
      refine cseq ?_; intro K22 hK22
      refine cseq ?_; intro K23 hK23
      refine creg ?_
      refine ymv ?_
      refine ymv ?_
      first
        | refine y (ev_len rfl Tryz.underlying50) rfl ?_
        | refine y (ev_lenSv rfl Tryz.underlying50 (by assumption)) rfl ?_
        | refine y (ev_lenV rfl Tryz.underlying50 (RdV.lenVal (by assumption))) rfl ?_
        | refine y (ev_lenV rfl Tryz.underlying50 (RdB.lenVal (by assumption))) rfl ?_
      refine y (ev_lss rfl rfl) rfl ?_
      refine ynil' (kthn (hK23 _ _ ?_))
      clear hK23
      refine ccond rfl (fun h132 => ?_) (fun h132 => ?_)
      ·(try simp only [sH] at h132)
       refine cskip' (kthn (hK22 _ _ ?_))
       clear hK22
       refine cseq ?_; intro K24 hK24
       refine cblock ?_
       refine creg ?_
       refine ymv ?_
       refine ymv ?_
       refine ymv ?_
       first
         | refine y (ev_ixAddr rfl rfl Tryz.underlying50 Tryz.sizeOf5 (by omega) (by omega)) rfl ?_
         | refine y (ev_ixV (by assumption) rfl rfl Tryz.underlying50 Tryz.sizeOf5 (by omega) (by omega)) rfl ?_
       refine y (ev_loadV k hb zge rfl Tryz.isAgg5 (by simp) (bytesV_get (by omega))) rfl ?_
       refine y (ev_ixAddrA rfl rfl Tryz.underlying113 Tryz.sizeOf5 (by omega) (by omega)) rfl ?_
       refine ya0 (ac_store (vs' := bytesV (padk bs (k + 1))) rfl rfl rfl Tryz.sizeOf5 zrp (by simp [padk]; omega) (by rw [show 0 + (k : Int).toNat * 1 = k by simp]; exact padk_set (by omega) (by omega))) ?_
       rintro v L' ⟨rfl, rfl⟩
       refine ynil' (kbn (kthn (hK24 _ _ ?_)))
       clear hK24
       refine creg ?_
       refine ymv ?_
       refine y (ev_add rfl rfl) rfl ?_
       rw [show IntKind.i64.wrap ((k:Int) + 1) = ((k+1 : Nat) : Int) by rw [wr (by omega) (by omega)]; rfl]
       refine yas ?_
       refine ynil' (kthn ?_)
       exact hL1 (k + 1) ((show k + 1 ≤ bs.length by omega)) (by omega) _ _ zsub zge
      ·(try simp only [sH] at h132)
       refine cexit (kthx (kthx (kbx (kthn ?_))))
       exact ksub zsub zge (hJ1 k ⟨hI1o, by first | trivial | omega⟩)
theorem refBarrier [Env] {R : List Seg} {p la : Nat} {D : RDev} (hD : D.ok) :
   Con Tryz.prog 93 [ptr p] [rP p la D, rL la D] R (Is (i64 D.barrier.1) [rP p la D.barrier.2, rL la D.barrier.2]) := by
 have hn := hD.n
 refine con_enter Tryz.func93 Tryz.ntmps93 rfl rfl ?_
 refine cseq ?_; intro K1 hK1
 refine creg ?_
 refine yas ?_
 refine ynil' (kthn (hK1 _ _ ?_))
 clear hK1
 refine cseq ?_; intro K2 hK2
 refine cseq ?_; intro K3 hK3
 refine creg ?_
 unfold rP rL
 refine ymv ?_
 refine yni ?_
 refine y (ev_fieldAddr 1 rfl Tryz.underlying86 rfl Tryz.sizeOf4) rfl ?_
 refine y (ev_load rfl Tryz.isAgg4 zin rfl) rfl ?_
 refine ynil' (kthn (hK3 _ _ ?_))
 clear hK3
 refine ccond rfl (fun h148 => ?_) (fun h148 => ?_)
 ·(try simp only [sH] at h148)
  refine cseq ?_; intro K4 hK4
  refine creg ?_
  refine yas ?_
  refine ynil' (kthn (hK4 _ _ ?_))
  clear hK4
  refine cret (kthr ?_)
  first
    | (exfalso; omega; done)
    | (refine kretv Tryz.results93 rfl (L1 := [sc p _ _, sc la _ _] ++ R) zge ?_
       exact ⟨_, ⟨by first | rfl | (simp [RDev.barrier, rP, rL, *]; done), rfl⟩, by first | rfl | (simp [RDev.barrier, rP, rL, *]; done)⟩)
 ·(try simp only [sH] at h148)
  refine cskip' (kthn (hK2 _ _ ?_))
  clear hK2
  refine cseq ?_; intro K5 hK5
  refine creg ?_
  show Sy _ _ _ _ _ _ (rP p la D :: rL la D :: R)
  refine ymv ?_
  refine ycall (refAct) rfl Tryz.call59 ztk rfl ?_
  rintro v L' ⟨rfl, rfl⟩
  have hal := ract_l (D := D)
  refine yas ?_
  refine ynil' (kthn (hK5 _ _ ?_))
  clear hK5
  refine cseq ?_; intro K6 hK6
  refine cseq ?_; intro K7 hK7
  refine creg ?_
  refine ymv ?_
  refine y (ev_neq rfl rfl) rfl ?_
  refine ynil' (kthn (hK7 _ _ ?_))
  clear hK7
  refine ccond rfl (fun h155 => ?_) (fun h155 => ?_)
  ·(try simp only [sH] at h155)
   refine cseq ?_; intro K8 hK8
   refine creg ?_
   refine ymv ?_
   refine yas ?_
   refine ynil' (kthn (hK8 _ _ ?_))
   clear hK8
   refine cret (kthr ?_)
   first
     | (exfalso; omega; done)
     | (refine kretv Tryz.results93 rfl (L1 := [sc p _ _, sc la _ _] ++ R) zge ?_
        exact ⟨_, ⟨by first | rfl | (simp [RDev.barrier, rP, rL, *]; done), rfl⟩, by first | rfl | (simp [RDev.barrier, rP, rL, *]; done)⟩)
  ·(try simp only [sH] at h155)
   refine cskip' (kthn (hK6 _ _ ?_))
   clear hK6
   refine cseq ?_; intro K9 hK9
   refine cseq ?_; intro K10 hK10
   refine creg ?_
   unfold rP rL; rw [hal]
   refine yas ?_
   refine ynil' (kthn (hK10 _ _ ?_))
   clear hK10
   have hJ1 : ∀ x : Nat, ((x ≤ D.l.length) ∧ (x = D.l.length)) → Sk 46 K9 ([(4, i64 x), (0, ptr p)]) ([sc p [.slice (some ⟨la, 0, none⟩) D.l.length D.l.length, .bool D.act.2.dead, .int .i64 D.act.2.fuse] 86, sc la (rflat (stl D.l x)) 118] ++ R) := by
    rintro k ⟨hI1, hX1⟩
    refine hK9 _ _ ?_
    have hk := hI1
    subst hX1; rw [stl_all]
    refine cseq ?_; intro K11 hK11
    refine creg ?_
    refine yas ?_
    refine ynil' (kthn (hK11 _ _ ?_))
    clear hK11
    refine cret ?_
    first
      | (exfalso; omega; done)
      | (refine kretv Tryz.results93 rfl (L1 := [sc p _ _, sc la _ _] ++ R) zge ?_
         exact ⟨_, ⟨by first | rfl | (simp [RDev.barrier, rP, rL, *]; done), rfl⟩, by first | rfl | (simp [RDev.barrier, rP, rL, *]; done)⟩)
   clear hK9
   refine cblock ?_
   refine cloop (A := Nat) (fun x => [(4, i64 x), (0, ptr p)]) (fun x => [sc p [.slice (some ⟨la, 0, none⟩) D.l.length D.l.length, .bool D.act.2.dead, .int .i64 D.act.2.fuse] 86, sc la (rflat (stl D.l x)) 118] ++ R) (fun x => x ≤ D.l.length) (fun x => D.l.length - x) (0) ?_ zsub zge ?_
   · exact Nat.zero_le _
   rintro k hI1 KL1 hL1
   have hI1o := hI1
   have hk := hI1
   refine cseq ?_; intro K12 hK12
   refine cseq ?_; intro K13 hK13
   refine creg ?_
   refine ymv ?_
   refine ymv ?_
   refine yni ?_
   refine y (ev_fieldAddr 0 rfl Tryz.underlying86 rfl Tryz.sizeOf84) rfl ?_
   refine y (ev_load rfl Tryz.isAgg84 zin rfl) rfl ?_
   first
     | refine y (ev_len rfl Tryz.underlying84) rfl ?_
     | refine y (ev_lenSv rfl Tryz.underlying84 (by assumption)) rfl ?_
     | refine y (ev_lenV rfl Tryz.underlying84 (RdV.lenVal (by assumption))) rfl ?_
     | refine y (ev_lenV rfl Tryz.underlying84 (RdB.lenVal (by assumption))) rfl ?_
   refine y (ev_lss rfl rfl) rfl ?_
   refine ynil' (kthn (hK13 _ _ ?_))
   clear hK13
   refine ccond rfl (fun h167 => ?_) (fun h167 => ?_)
   ·(try simp only [sH] at h167)
    obtain ⟨r, hrr⟩ : ∃ r, D.l[k]? = some r := ⟨_, List.getElem?_eq_getElem (by omega)⟩
    have hro := hD.sec r (List.mem_of_getElem? hrr)
    have hsk := stl_ok hD.sec k
    have hgt := stl_get hrr
    have hsl := stl_len D.l k
    have hsu := stl_succ hrr
    refine cskip' (kthn (hK12 _ _ ?_))
    clear hK12
    refine cseq ?_; intro K14 hK14
    refine cblock ?_
    refine cseq ?_; intro K15 hK15
    refine creg ?_
    refine ymv ?_
    refine yni ?_
    refine y (ev_fieldAddr 0 rfl Tryz.underlying86 rfl Tryz.sizeOf84) rfl ?_
    refine y (ev_load rfl Tryz.isAgg84 zin rfl) rfl ?_
    refine ymv ?_
    first
      | refine y (ev_ixAddr rfl rfl Tryz.underlying84 Tryz.sizeOf118 (by omega) (by omega)) rfl ?_
      | refine y (ev_ixV (by assumption) rfl rfl Tryz.underlying84 Tryz.sizeOf118 (by omega) (by omega)) rfl ?_
    refine y (ev_fieldAddr 288 rfl Tryz.underlying118 rfl Tryz.sizeOf4) rfl ?_
    refine y (ev_load rfl Tryz.isAgg4 zin (by rw [show 0 + (k : Int).toNat * 289 + 288 = k * 289 + 288 by simp, rflat_get hsk hgt (by omega)]; exact rsV_is hro)) rfl ?_
    refine ynil' (kthn (hK15 _ _ ?_))
    clear hK15
    refine ccond rfl (fun h176 => ?_) (fun h176 => ?_)
    ·(try simp only [sH] at h176)
     have hse : r.settle = ⟨r.p, zsec, false⟩ := by unfold RS.settle; rw [if_pos (by simp_all)]
     rw [hse] at hsu
     refine cdraw 15 [(0, true), (1, true), (2, true), (3, true), (4, true), (5, true), (6, true), (7, true), (8, true), (9, true), (10, true), (11, true), (12, true), (13, true), (14, true)] (_) Tryz.mixed (by kernel_rfl) .refl ?_
     refine hr rfl (ev_move rfl) rfl ?_
     refine hr rfl (ev_nil rfl) rfl ?_
     refine hr rfl (ev_fieldAddr 0 rfl Tryz.underlying86 rfl Tryz.sizeOf84) rfl ?_
     refine hr rfl (ev_load rfl Tryz.isAgg84 zin rfl) rfl ?_
     refine hr rfl (ev_move rfl) rfl ?_
     refine hr rfl (ev_move rfl) rfl ?_
     refine hr rfl (ev_nil rfl) rfl ?_
     refine hr rfl (ev_fieldAddr 0 rfl Tryz.underlying86 rfl Tryz.sizeOf84) rfl ?_
     refine hr rfl (ev_load rfl Tryz.isAgg84 zin rfl) rfl ?_
     refine hr rfl (ev_move rfl) rfl ?_
     first
       | refine hr rfl (ev_ixAddr rfl rfl Tryz.underlying84 Tryz.sizeOf118 (by omega) (by omega)) rfl ?_
       | refine hr rfl (ev_ixV (by assumption) rfl rfl Tryz.underlying84 Tryz.sizeOf118 (by omega) (by omega)) rfl ?_
     refine hr rfl (ev_fieldAddr 144 rfl Tryz.underlying118 rfl Tryz.sizeOf113) rfl ?_
     refine hr rfl (ev_loadN (u := bytesV r.p) rfl Tryz.isAgg113 Tryz.sizeOf113 zin (by rw [show 0 + (k : Int).toNat * 289 + 144 = k * 289 + 144 by simp, rflat_slice hsk hgt (by omega)]; exact rsV_p hro) (by simp [hro.2])) rfl ?_
     refine hr rfl (ev_build (zs := rsV zrs) (vs := rsV ⟨r.p, zsec, false⟩) rfl Tryz.underlying118 Tryz.zeroValue118 Tryz.zrc (.cons Tryz.sizeOf113 (.cons Tryz.sizeOf113 (.cons Tryz.sizeOf4 .nil))) ⟨⟨_, _, rfl, (by simp [vcells, hro.2]), (by rw [zrsL]; decide)⟩, trivial⟩ (build_b hro.2)) rfl ?_
     first
       | refine hr rfl (ev_ixAddr rfl rfl Tryz.underlying84 Tryz.sizeOf118 (by omega) (by omega)) rfl ?_
       | refine hr rfl (ev_ixV (by assumption) rfl rfl Tryz.underlying84 Tryz.sizeOf118 (by omega) (by omega)) rfl ?_
     refine hnil ?_
     refine ya0 (ac_storeN (vs' := rflat ((stl D.l k).set k ⟨r.p, zsec, false⟩)) rfl rfl (rsV_one _) Tryz.sizeOf118 zrp (rsV_length ⟨hro.2, zsec_length⟩) (by rw [rflat_length hsk, hsl]; omega) (by rw [show 0 + (k : Int).toNat * 289 = k * 289 by simp]; exact rs_store_all hsk hgt ⟨hro.2, zsec_length⟩)) ?_
     rintro v L' ⟨rfl, rfl⟩
     rw [hsu]
     refine hnoP' (kbn (kthn (hK14 _ _ ?_)))
     clear hK14
     refine creg ?_
     refine ymv ?_
     refine y (ev_add rfl rfl) rfl ?_
     rw [show IntKind.i64.wrap ((k:Int) + 1) = ((k+1 : Nat) : Int) by rw [wr (by omega) (by omega)]; rfl]
     refine yas ?_
     refine ynil' (kthn ?_)
     exact hL1 (k + 1) ((show k + 1 ≤ D.l.length by omega)) (by omega) _ _ zsub zge
    ·(try simp only [sH] at h176)
     have hse : r.settle = r := by unfold RS.settle; rw [if_neg (by simp_all)]
     rw [hse, set_same hgt] at hsu
     rw [hsu]
     refine cskip' (kbn (kthn (hK14 _ _ ?_)))
     clear hK14
     refine creg ?_
     refine ymv ?_
     refine y (ev_add rfl rfl) rfl ?_
     rw [show IntKind.i64.wrap ((k:Int) + 1) = ((k+1 : Nat) : Int) by rw [wr (by omega) (by omega)]; rfl]
     refine yas ?_
     refine ynil' (kthn ?_)
     exact hL1 (k + 1) ((show k + 1 ≤ D.l.length by omega)) (by omega) _ _ zsub zge
   ·(try simp only [sH] at h167)
    refine cexit (kthx (kthx (kbx (kthn ?_))))
    exact ksub zsub zge (hJ1 k ⟨hI1o, by first | trivial | omega⟩)
def KRRead (D : RDev) (i : Int) (L : List Seg) (v : Value) (L' : List Seg) : Prop :=
 (D.has i ≠ 0 ∧ v = .tuple #[.slice none 0 0, i64 (D.has i)] ∧ L' = L) ∨
 (D.has i = 0 ∧ ∃ s, v = .tuple #[svVal s 144, i64 0] ∧ svOk s 144 1 (bytesV (D.sec i)) ∧ L' = svSeg s 5 (bytesV (D.sec i)) :: L)
theorem refRead [Env] {R : List Seg} {p la : Nat} {D : RDev} {i : Int} (hD : D.ok) :
   Con Tryz.prog 27 [ptr p, i64 i] [rP p la D, rL la D] R (KRRead D i [rP p la D, rL la D]) := by
 have hn := hD.n
 refine con_enter Tryz.func27 Tryz.ntmps27 rfl rfl ?_
 refine cseq ?_; intro K1 hK1
 refine creg ?_
 refine yas ?_
 refine yas ?_
 refine ynil' (kthn (hK1 _ _ ?_))
 clear hK1
 refine cseq ?_; intro K2 hK2
 refine cseq ?_; intro K3 hK3
 refine creg ?_
 unfold rP rL
 refine ymv ?_
 refine yni ?_
 refine y (ev_fieldAddr 1 rfl Tryz.underlying86 rfl Tryz.sizeOf4) rfl ?_
 refine y (ev_load rfl Tryz.isAgg4 zin rfl) rfl ?_
 refine ynil' (kthn (hK3 _ _ ?_))
 clear hK3
 refine ccond rfl (fun h205 => ?_) (fun h205 => ?_)
 ·(try simp only [sH] at h205)
  refine cseq ?_; intro K4 hK4
  refine creg ?_
  have hh1 : D.has i = 30 := by unfold RDev.has; rw [if_pos (by simp_all)]
  refine yas ?_
  refine yas ?_
  refine ynil' (kthn (hK4 _ _ ?_))
  clear hK4
  refine cret (kthr ?_)
  first
    | (exfalso; omega; done)
    | exact kret2 Tryz.results27 rfl rfl _ (.inl ⟨by rw [hh1]; decide, by rw [hh1], rfl⟩) zge
    | exact kret2 Tryz.results27 rfl rfl _ (.inr ⟨hh0, s6, rfl, ok6, rfl⟩) zge
 ·(try simp only [sH] at h205)
  refine cskip' (kthn (hK2 _ _ ?_))
  clear hK2
  refine cseq ?_; intro K5 hK5
  refine cseq ?_; intro K6 hK6
  refine creg ?_
  refine ymv ?_
  refine y (ev_lss rfl rfl) rfl ?_
  refine ymv ?_
  refine ysplit 14 rfl (fun h211 => ?_) (fun h211 => ?_)
  ·(try simp only [sH] at h211)
   refine ygz ?_
   refine ygz ?_
   refine ygz ?_
   refine ygz ?_
   refine ygz ?_
   refine ygz ?_
   refine ygz ?_
   refine ypa ?_
   refine ynil' (kthn (hK6 _ _ ?_))
   clear hK6
   refine ccond1 rfl ?_
   refine cseq ?_; intro K7 hK7
   refine creg ?_
   have hh1 : D.has i = 2 := by unfold RDev.has; rw [if_neg (by simp_all), if_pos (by omega)]
   refine yas ?_
   refine yas ?_
   refine ynil' (kthn (hK7 _ _ ?_))
   clear hK7
   refine cret (kthr ?_)
   first
     | (exfalso; omega; done)
     | exact kret2 Tryz.results27 rfl rfl _ (.inl ⟨by rw [hh1]; decide, by rw [hh1], rfl⟩) zge
     | exact kret2 Tryz.results27 rfl rfl _ (.inr ⟨hh0, s6, rfl, ok6, rfl⟩) zge
  ·(try simp only [sH] at h211)
   refine ygo ?_
   refine ymv ?_
   refine ygo ?_
   refine ymv ?_
   refine ygo ?_
   refine yni ?_
   refine ygo ?_
   refine y (ev_fieldAddr 0 rfl Tryz.underlying86 rfl Tryz.sizeOf84) rfl ?_
   refine ygo ?_
   refine y (ev_load rfl Tryz.isAgg84 zin rfl) rfl ?_
   refine ygo ?_
   first
     | refine y (ev_len rfl Tryz.underlying84) rfl ?_
     | refine y (ev_lenSv rfl Tryz.underlying84 (by assumption)) rfl ?_
     | refine y (ev_lenV rfl Tryz.underlying84 (RdV.lenVal (by assumption))) rfl ?_
     | refine y (ev_lenV rfl Tryz.underlying84 (RdB.lenVal (by assumption))) rfl ?_
   refine ygo ?_
   refine y (ev_geq rfl rfl) rfl ?_
   refine ypb ?_
   refine ynil' (kthn (hK6 _ _ ?_))
   clear hK6
   refine ccond rfl (fun h223 => ?_) (fun h223 => ?_)
   ·(try simp only [sH] at h223)
    refine cseq ?_; intro K8 hK8
    refine creg ?_
    have hh1 : D.has i = 2 := by unfold RDev.has; rw [if_neg (by simp_all), if_pos (by omega)]
    refine yas ?_
    refine yas ?_
    refine ynil' (kthn (hK8 _ _ ?_))
    clear hK8
    refine cret (kthr ?_)
    first
      | (exfalso; omega; done)
      | exact kret2 Tryz.results27 rfl rfl _ (.inl ⟨by rw [hh1]; decide, by rw [hh1], rfl⟩) zge
      | exact kret2 Tryz.results27 rfl rfl _ (.inr ⟨hh0, s6, rfl, ok6, rfl⟩) zge
   ·(try simp only [sH] at h223)
    refine cskip' (kthn (hK5 _ _ ?_))
    clear hK5
    refine cseq ?_; intro K9 hK9
    refine creg ?_
    obtain ⟨r, hrr⟩ : ∃ r, D.l[i.toNat]? = some r := ⟨_, List.getElem?_eq_getElem (by omega)⟩
    have hro := hD.sec r (List.mem_of_getElem? hrr)
    have hrl := rsec_len hro
    have hds : D.sec i = r.sec := by simp [RDev.sec, hrr]
    have hh0 : D.has i = 0 := by unfold RDev.has; rw [if_neg (by simp_all), if_neg (by omega)]
    refine ya (ac_bslice0 Tryz.underlying50 Tryz.sizeOf5) rfl ?_
    rintro v L' ⟨b23, rfl, rfl⟩
    refine yas ?_
    refine ynil' (kthn (hK9 _ _ ?_))
    clear hK9
    refine cseq ?_; intro K10 hK10
    refine cseq ?_; intro K11 hK11
    refine creg ?_
    refine yas ?_
    refine ynil' (kthn (hK11 _ _ ?_))
    clear hK11
    have hJ1 : ∀ x : Nat × Sv, ((svOk x.2 x.1 1 (bytesV (r.sec.take x.1)) ∧ x.1 ≤ 144) ∧ (x.1 = 144)) → Sk 63 K10 ([(7, i64 x.1), (6, svVal x.2 x.1), (0, ptr p), (1, i64 i)]) ([svSeg x.2 5 (bytesV (r.sec.take x.1)), sc p [.slice (some ⟨la, 0, none⟩) D.l.length D.l.length, .bool D.dead, .int .i64 D.fuse] 86, sc la (rflat D.l) 118] ++ R) := by
     rintro ⟨k, s6⟩ ⟨hI1, hX1⟩
     refine hK10 _ _ ?_
     obtain ⟨ok6, hk⟩ := hI1; dsimp only at ok6 hk ⊢
     dsimp only at hX1; subst hX1; rw [List.take_of_length_le (by omega)] at ok6 ⊢; rw [← hds] at ok6 ⊢
     refine cseq ?_; intro K12 hK12
     refine creg ?_
     refine ymv ?_
     refine yas ?_
     refine yas ?_
     refine ynil' (kthn (hK12 _ _ ?_))
     clear hK12
     refine cret ?_
     first
       | (exfalso; omega; done)
       | exact kret2 Tryz.results27 rfl rfl _ (.inl ⟨by rw [hh1]; decide, by rw [hh1], rfl⟩) zge
       | exact kret2 Tryz.results27 rfl rfl _ (.inr ⟨hh0, s6, rfl, ok6, rfl⟩) zge
    clear hK10
    refine cblock ?_
    refine cloop (A := Nat × Sv) (fun x => [(7, i64 x.1), (6, svVal x.2 x.1), (0, ptr p), (1, i64 i)]) (fun x => [svSeg x.2 5 (bytesV (r.sec.take x.1)), sc p [.slice (some ⟨la, 0, none⟩) D.l.length D.l.length, .bool D.dead, .int .i64 D.fuse] 86, sc la (rflat D.l) 118] ++ R) (fun x => svOk x.2 x.1 1 (bytesV (r.sec.take x.1)) ∧ x.1 ≤ 144) (fun x => 144 - x.1) ((0, some (b23, 0, []))) ?_ zsub zge ?_
    · exact ⟨⟨Nat.le_refl _, Nat.zero_le _, rfl, rfl⟩, Nat.zero_le _⟩
    rintro ⟨k, s6⟩ hI1 KL1 hL1
    have hI1o := hI1
    obtain ⟨ok6, hk⟩ := hI1; dsimp only at ok6 hk ⊢
    refine cseq ?_; intro K13 hK13
    refine cseq ?_; intro K14 hK14
    refine creg ?_
    refine ymv ?_
    refine y (ev_lss rfl rfl) rfl ?_
    refine ynil' (kthn (hK14 _ _ ?_))
    clear hK14
    refine ccond rfl (fun h234 => ?_) (fun h234 => ?_)
    ·(try simp only [sH] at h234)
     refine cskip' (kthn (hK13 _ _ ?_))
     clear hK13
     refine cseq ?_; intro K15 hK15
     refine cblock ?_
     refine cseq ?_; intro K16 hK16
     refine creg ?_
     refine ymv ?_
     refine yni ?_
     refine y (ev_fieldAddr 0 rfl Tryz.underlying86 rfl Tryz.sizeOf84) rfl ?_
     refine y (ev_load rfl Tryz.isAgg84 zin rfl) rfl ?_
     refine ymv ?_
     first
       | refine y (ev_ixAddr rfl rfl Tryz.underlying84 Tryz.sizeOf118 (by omega) (by omega)) rfl ?_
       | refine y (ev_ixV (by assumption) rfl rfl Tryz.underlying84 Tryz.sizeOf118 (by omega) (by omega)) rfl ?_
     refine y (ev_fieldAddr 288 rfl Tryz.underlying118 rfl Tryz.sizeOf4) rfl ?_
     refine y (ev_load rfl Tryz.isAgg4 zin (by rw [show 0 + i.toNat * 289 + 288 = i.toNat * 289 + 288 by simp, rflat_get hD.sec hrr (by omega)]; exact rsV_is hro)) rfl ?_
     refine ynil' (kthn (hK16 _ _ ?_))
     clear hK16
     refine ccond rfl (fun h243 => ?_) (fun h243 => ?_)
     ·(try simp only [sH] at h243)
      refine creg ?_
      refine ymv ?_
      refine ymv ?_
      refine yni ?_
      refine y (ev_fieldAddr 0 rfl Tryz.underlying86 rfl Tryz.sizeOf84) rfl ?_
      refine y (ev_load rfl Tryz.isAgg84 zin rfl) rfl ?_
      refine ymv ?_
      refine ymv ?_
      first
        | refine y (ev_ixAddr rfl rfl Tryz.underlying84 Tryz.sizeOf118 (by omega) (by omega)) rfl ?_
        | refine y (ev_ixV (by assumption) rfl rfl Tryz.underlying84 Tryz.sizeOf118 (by omega) (by omega)) rfl ?_
      refine y (ev_fieldAddr 144 rfl Tryz.underlying118 rfl Tryz.sizeOf113) rfl ?_
      refine y (ev_ixAddrA rfl rfl Tryz.underlying113 Tryz.sizeOf5 (by omega) (by omega)) rfl ?_
      refine y (ev_load rfl Tryz.isAgg5 zin (by rw [show 0 + i.toNat * 289 + 144 + (k : Int).toNat * 1 = i.toNat * 289 + (144 + k) by simp; omega, rflat_get hD.sec hrr (by omega)]; exact rs_byte_p hro (by simp_all) (by omega))) rfl ?_
      refine ya (ac_bsliceR rfl Tryz.underlying50 Tryz.sizeOf5 Tryz.zeroValue5 rfl rfl rfl rfl ⟨⟨_, _, rfl, (by first | rfl | simp), (by first | decide | simp)⟩, trivial⟩ (by dsimp [fillL, splice, vcells, reps] <;> rfl)) rfl ?_
      rintro v L' ⟨b47, rfl, rfl⟩
      refine ya (ac_append (xs := bytesV (r.sec.take k)) (m := k) (k := 1) (us := [.int .u8 (r.sec[k]?.getD 0).toNat]) (size := 1) rfl rfl (by repeat first | exact .z | apply Pk.s) Tryz.underlying50 Tryz.underlying50 (by intro q hq; cases hq) Tryz.typeInfo5 rfl rfl rfl ?ok256 ?src256 ?one256 ?big256) rfl ?_
      case ok256 => exact ok6
      case src256 => exact src_at zin rfl rfl
      case one256 => simp [Value.oneCell']
      case big256 => show (k + 1) * 2 ≤ _; omega
      rintro v L' ⟨s48, rfl, ok48, rfl⟩
      rw [take_byte (by omega)] at ok48 ⊢
      refine yas ?_
      refine ynil' (kbn (kthn (hK15 _ _ ?_)))
      clear hK15
      refine creg ?_
      refine ymv ?_
      refine y (ev_add rfl rfl) rfl ?_
      rw [show IntKind.i64.wrap ((k:Int) + 1) = ((k+1 : Nat) : Int) by rw [wr (by omega) (by omega)]; rfl]
      refine yas ?_
      refine ynil' (kthn ?_)
      first
        | exact hL1 (k + 1, s48) ⟨ok48, by dsimp only; omega⟩ (by dsimp only; omega) _ _ zsub zge
        | exact hL1 (k + 1, s61) ⟨ok61, by dsimp only; omega⟩ (by dsimp only; omega) _ _ zsub zge
     ·(try simp only [sH] at h243)
      refine creg ?_
      refine ymv ?_
      refine ymv ?_
      refine yni ?_
      refine y (ev_fieldAddr 0 rfl Tryz.underlying86 rfl Tryz.sizeOf84) rfl ?_
      refine y (ev_load rfl Tryz.isAgg84 zin rfl) rfl ?_
      refine ymv ?_
      refine ymv ?_
      first
        | refine y (ev_ixAddr rfl rfl Tryz.underlying84 Tryz.sizeOf118 (by omega) (by omega)) rfl ?_
        | refine y (ev_ixV (by assumption) rfl rfl Tryz.underlying84 Tryz.sizeOf118 (by omega) (by omega)) rfl ?_
      refine y (ev_fieldAddr 0 rfl Tryz.underlying118 rfl Tryz.sizeOf113) rfl ?_
      refine y (ev_ixAddrA rfl rfl Tryz.underlying113 Tryz.sizeOf5 (by omega) (by omega)) rfl ?_
      refine y (ev_load rfl Tryz.isAgg5 zin (by rw [show 0 + i.toNat * 289 + 0 + (k : Int).toNat * 1 = i.toNat * 289 + k by simp, rflat_get hD.sec hrr (by omega)]; exact rs_byte_b hro (by simp_all) (by omega))) rfl ?_
      refine ya (ac_bsliceR rfl Tryz.underlying50 Tryz.sizeOf5 Tryz.zeroValue5 rfl rfl rfl rfl ⟨⟨_, _, rfl, (by first | rfl | simp), (by first | decide | simp)⟩, trivial⟩ (by dsimp [fillL, splice, vcells, reps] <;> rfl)) rfl ?_
      rintro v L' ⟨b60, rfl, rfl⟩
      refine ya (ac_append (xs := bytesV (r.sec.take k)) (m := k) (k := 1) (us := [.int .u8 (r.sec[k]?.getD 0).toNat]) (size := 1) rfl rfl (by repeat first | exact .z | apply Pk.s) Tryz.underlying50 Tryz.underlying50 (by intro q hq; cases hq) Tryz.typeInfo5 rfl rfl rfl ?ok273 ?src273 ?one273 ?big273) rfl ?_
      case ok273 => exact ok6
      case src273 => exact src_at zin rfl rfl
      case one273 => simp [Value.oneCell']
      case big273 => show (k + 1) * 2 ≤ _; omega
      rintro v L' ⟨s61, rfl, ok61, rfl⟩
      rw [take_byte (by omega)] at ok61 ⊢
      refine yas ?_
      refine ynil' (kbn (kthn (hK15 _ _ ?_)))
      clear hK15
      refine creg ?_
      refine ymv ?_
      refine y (ev_add rfl rfl) rfl ?_
      rw [show IntKind.i64.wrap ((k:Int) + 1) = ((k+1 : Nat) : Int) by rw [wr (by omega) (by omega)]; rfl]
      refine yas ?_
      refine ynil' (kthn ?_)
      first
        | exact hL1 (k + 1, s48) ⟨ok48, by dsimp only; omega⟩ (by dsimp only; omega) _ _ zsub zge
        | exact hL1 (k + 1, s61) ⟨ok61, by dsimp only; omega⟩ (by dsimp only; omega) _ _ zsub zge
    ·(try simp only [sH] at h234)
     refine cexit (kthx (kthx (kbx (kthn ?_))))
     exact ksub zsub zge (hJ1 ⟨k, s6⟩ ⟨hI1o, by first | trivial | omega⟩)
end W
end Go.Proofs
