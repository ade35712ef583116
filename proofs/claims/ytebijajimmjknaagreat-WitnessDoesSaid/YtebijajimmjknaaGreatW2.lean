/- A part of the proof: contracts and plain lemmas, each without conditions beyond those that it names. -/
import Derived.Test.YtebijajimmjknaaGreatW1
import Derived.Test.YtebijajimmjknaaGreatGH
set_option linter.unusedVariables false
set_option linter.unusedSimpArgs false
set_option linter.constructorNameAsVariable false
namespace Go.Proofs
open Go Go.Sl
namespace W
set_option linter.unusedVariables false
def witP (s c : Nat) (W : WitM) : Seg := sc s [ptr c, i64 W.f.epoch, i64 W.f.holder, i64 W.f.mask, i64 W.f.change, i64 W.f.l0, i64 W.f.l1, i64 W.left, i64 W.wait] 97
abbrev tmP (s : Nat) : Value := .pointer (some ⟨s, 7, none⟩)
theorem tSet [Env] {R : List Seg} {s c : Nat} {W : WitM} {n : Int} : Con Tryz.prog 43 [tmP s, i64 n] [witP s c W] R (Is (.tuple #[]) [witP s c { W with left := max n 0 }]) := by
  unfold witP
  refine con_enter Tryz.func43 Tryz.ntmps43 rfl rfl ?_
  refine creg ?_
  refine y (ev_move rfl) rfl ?_
  refine y (ev_move rfl) rfl ?_
  refine y (ev_max rfl rfl) rfl ?_
  rw [max0]
  refine y (ev_nil rfl) rfl ?_
  refine y (ev_fieldAddr 0 rfl Tryz.underlying95 rfl Tryz.sizeOf2) rfl ?_
  refine ya0 (ac_store rfl rfl (by first | rfl | exact svVal_one _ _ | assumption) Tryz.sizeOf2 zrp rfl rfl) ?_
  rintro v L' ⟨rfl, rfl⟩
  refine ynil' ?_
  first
    | (exfalso; omega; done)
    | (refine kendv0 Tryz.results43 (L1 := [sc s _ 97] ++ R) zge ?_
       exact ⟨_, ⟨by rfl, rfl⟩, by rfl⟩)
theorem tTick [Env] {R : List Seg} {s c : Nat} {W : WitM} (hl : 0 ≤ W.left ∧ W.left ≤ 9223372036854775807) : Con Tryz.prog 54 [tmP s] [witP s c W] R (Is (.tuple #[]) [witP s c W.tick]) := by
  unfold witP WitM.tick
  refine con_enter Tryz.func54 Tryz.ntmps54 rfl rfl ?_
  refine creg ?_
  refine y (ev_move rfl) rfl ?_
  refine y (ev_move rfl) rfl ?_
  refine y (ev_nil rfl) rfl ?_
  refine y (ev_fieldAddr 0 rfl Tryz.underlying95 rfl Tryz.sizeOf2) rfl ?_
  refine y (ev_load rfl Tryz.isAgg2 zin rfl) rfl ?_
  refine y (ev_sub rfl rfl) rfl ?_
  rw [wr (by omega) (by omega)]
  refine y (ev_max rfl rfl) rfl ?_
  rw [max0]
  refine y (ev_nil rfl) rfl ?_
  refine y (ev_fieldAddr 0 rfl Tryz.underlying95 rfl Tryz.sizeOf2) rfl ?_
  refine ya0 (ac_store rfl rfl (by first | rfl | exact svVal_one _ _ | assumption) Tryz.sizeOf2 zrp rfl rfl) ?_
  rintro v L' ⟨rfl, rfl⟩
  refine ynil' ?_
  first
    | (exfalso; omega; done)
    | (refine kendv0 Tryz.results54 (L1 := [sc s _ 97] ++ R) zge ?_
       exact ⟨_, ⟨by rfl, rfl⟩, by rfl⟩)
theorem tOn [Env] {R : List Seg} {s c : Nat} {W : WitM} : Con Tryz.prog 80 [tmP s] [witP s c W] R (Is (.bool (decide (0 < W.left))) [witP s c W]) := by
  unfold witP
  refine con_enter Tryz.func80 Tryz.ntmps80 rfl rfl ?_
  refine cseq ?_; intro K1 hK1
  refine creg ?_
  refine y (ev_assign rfl) rfl ?_
  refine ynil' (kthn (hK1 _ _ ?_))
  clear hK1
  refine cseq ?_; intro K2 hK2
  refine creg ?_
  refine y (ev_move rfl) rfl ?_
  refine y (ev_nil rfl) rfl ?_
  refine y (ev_fieldAddr 0 rfl Tryz.underlying95 rfl Tryz.sizeOf2) rfl ?_
  refine y (ev_load rfl Tryz.isAgg2 zin rfl) rfl ?_
  refine y (ev_gtr rfl rfl) rfl ?_
  refine y (ev_assign rfl) rfl ?_
  refine ynil' (kthn (hK2 _ _ ?_))
  clear hK2
  refine cret ?_
  first
    | (exfalso; omega; done)
    | (refine kretv Tryz.results80 rfl (L1 := [sc s _ 97] ++ R) zge ?_
       exact ⟨_, ⟨by rfl, rfl⟩, by rfl⟩)
theorem wWithin [Env] {R : List Seg} {n lo hi : Int} : Con Tryz.prog 39 [i64 n, i64 lo, i64 hi] [] R (Is (.bool (within3 n lo hi)) []) := by
  refine con_enter Tryz.func39 Tryz.ntmps39 rfl rfl ?_
  refine cseq ?_; intro K1 hK1
  refine creg ?_
  refine y (ev_assign rfl) rfl ?_
  refine ynil' (kthn (hK1 _ _ ?_))
  clear hK1
  refine cseq ?_; intro K2 hK2
  refine creg ?_
  refine y (ev_move rfl) rfl ?_
  refine y (ev_move rfl) rfl ?_
  refine y (ev_geq rfl rfl) rfl ?_
  refine y (ev_move rfl) rfl ?_
  refine ysplit 10 rfl (fun h29 => ?_) (fun h29 => ?_)
  ·(try simp only [sH] at h29)
   refine yg1 rfl rfl ?_
   refine y (ev_move rfl) rfl ?_
   refine yg1 rfl rfl ?_
   refine y (ev_move rfl) rfl ?_
   refine yg1 rfl rfl ?_
   refine y (ev_leq rfl rfl) rfl ?_
   refine y (ev_pick1 rfl rfl) rfl ?_
   refine y (ev_assign rfl) rfl ?_
   refine ynil' (kthn (hK2 _ _ ?_))
   clear hK2
   refine cret ?_
   first
     | (exfalso; omega; done)
     | (refine kretv Tryz.results39 rfl (L1 := R) zge ?_
        exact ⟨_, ⟨by first | rfl | (simp [within3]; omega) | (simp [within3, *]; done), rfl⟩, by first | rfl | (simp [within3]; omega) | (simp [within3, *]; done)⟩)
  ·(try simp only [sH] at h29)
   refine yg0 rfl rfl rfl rfl ?_
   refine yg0 rfl rfl rfl rfl ?_
   refine yg0 rfl rfl rfl rfl ?_
   refine y (ev_pick0 rfl rfl) rfl ?_
   refine y (ev_assign rfl) rfl ?_
   refine ynil' (kthn (hK2 _ _ ?_))
   clear hK2
   refine cret ?_
   first
     | (exfalso; omega; done)
     | (refine kretv Tryz.results39 rfl (L1 := R) zge ?_
        exact ⟨_, ⟨by first | rfl | (simp [within3]; omega) | (simp [within3, *]; done), rfl⟩, by first | rfl | (simp [within3]; omega) | (simp [within3, *]; done)⟩)
theorem wTick [Env] {R : List Seg} {s c : Nat} {W : WitM} (hl : 0 ≤ W.left ∧ W.left ≤ 9223372036854775807) : Con Tryz.prog 13 [ptr s] [witP s c W] R (Is (.tuple #[]) [witP s c W.tick]) := by
  refine con_enter Tryz.func13 Tryz.ntmps13 rfl rfl ?_
  refine creg ?_
  refine y (ev_move rfl) rfl ?_
  refine y (ev_nil rfl) rfl ?_
  refine y (ev_fieldAddr 7 rfl Tryz.underlying97 rfl Tryz.sizeOf95) rfl ?_
  refine ycall (tTick ?lf40) rfl Tryz.call54 ztk rfl ?_
  case lf40 => exact hl
  rintro v L' ⟨rfl, rfl⟩
  refine ynil' ?_
  first
    | (exfalso; omega; done)
    | (refine kendv0 Tryz.results13 (L1 := _) zge ?_
       exact ⟨_, ⟨by first | rfl | (simp [*]; done) | (simp [*]; omega) | simp_all, rfl⟩, by first | rfl | (simp [*]; done) | (simp [*]; omega) | simp_all⟩)
theorem wEpoch [Env] {R : List Seg} {s c : Nat} {W : WitM} : Con Tryz.prog 22 [ptr s] [witP s c W] R (Is (i64 W.f.epoch) [witP s c W]) := by
  unfold witP
  refine con_enter Tryz.func22 Tryz.ntmps22 rfl rfl ?_
  refine cseq ?_; intro K1 hK1
  refine creg ?_
  refine y (ev_assign rfl) rfl ?_
  refine ynil' (kthn (hK1 _ _ ?_))
  clear hK1
  refine cseq ?_; intro K2 hK2
  refine creg ?_
  refine y (ev_move rfl) rfl ?_
  refine y (ev_nil rfl) rfl ?_
  refine y (ev_fieldAddr 1 rfl Tryz.underlying97 rfl Tryz.sizeOf93) rfl ?_
  refine y (ev_fieldAddr 0 rfl Tryz.underlying93 rfl Tryz.sizeOf2) rfl ?_
  refine y (ev_load rfl Tryz.isAgg2 zin rfl) rfl ?_
  refine y (ev_assign rfl) rfl ?_
  refine ynil' (kthn (hK2 _ _ ?_))
  clear hK2
  refine cret ?_
  first
    | (exfalso; omega; done)
    | (refine kretv Tryz.results22 rfl (L1 := _) zge ?_
       exact ⟨_, ⟨by first | rfl | (simp [*]; done) | (simp [*]; omega) | simp_all, rfl⟩, by first | rfl | (simp [*]; done) | (simp [*]; omega) | simp_all⟩)
theorem wMask [Env] {R : List Seg} {s c : Nat} {W : WitM} : Con Tryz.prog 24 [ptr s] [witP s c W] R (Is (i64 W.f.mask) [witP s c W]) := by
  unfold witP
  refine con_enter Tryz.func24 Tryz.ntmps24 rfl rfl ?_
  refine cseq ?_; intro K1 hK1
  refine creg ?_
  refine y (ev_assign rfl) rfl ?_
  refine ynil' (kthn (hK1 _ _ ?_))
  clear hK1
  refine cseq ?_; intro K2 hK2
  refine creg ?_
  refine y (ev_move rfl) rfl ?_
  refine y (ev_nil rfl) rfl ?_
  refine y (ev_fieldAddr 1 rfl Tryz.underlying97 rfl Tryz.sizeOf93) rfl ?_
  refine y (ev_fieldAddr 2 rfl Tryz.underlying93 rfl Tryz.sizeOf3) rfl ?_
  refine y (ev_load rfl Tryz.isAgg3 zin rfl) rfl ?_
  refine y (ev_assign rfl) rfl ?_
  refine ynil' (kthn (hK2 _ _ ?_))
  clear hK2
  refine cret ?_
  first
    | (exfalso; omega; done)
    | (refine kretv Tryz.results24 rfl (L1 := _) zge ?_
       exact ⟨_, ⟨by first | rfl | (simp [*]; done) | (simp [*]; omega) | simp_all, rfl⟩, by first | rfl | (simp [*]; done) | (simp [*]; omega) | simp_all⟩)
theorem wHolder [Env] {R : List Seg} {s c : Nat} {W : WitM} : Con Tryz.prog 23 [ptr s] [witP s c W] R (Is (i64 W.f.holder) [witP s c W]) := by
  unfold witP
  refine con_enter Tryz.func23 Tryz.ntmps23 rfl rfl ?_
  refine cseq ?_; intro K1 hK1
  refine creg ?_
  refine y (ev_assign rfl) rfl ?_
  refine ynil' (kthn (hK1 _ _ ?_))
  clear hK1
  refine cseq ?_; intro K2 hK2
  refine creg ?_
  refine y (ev_move rfl) rfl ?_
  refine y (ev_nil rfl) rfl ?_
  refine y (ev_fieldAddr 1 rfl Tryz.underlying97 rfl Tryz.sizeOf93) rfl ?_
  refine y (ev_fieldAddr 1 rfl Tryz.underlying93 rfl Tryz.sizeOf3) rfl ?_
  refine y (ev_load rfl Tryz.isAgg3 zin rfl) rfl ?_
  refine y (ev_assign rfl) rfl ?_
  refine ynil' (kthn (hK2 _ _ ?_))
  clear hK2
  refine cret ?_
  first
    | (exfalso; omega; done)
    | (refine kretv Tryz.results23 rfl (L1 := _) zge ?_
       exact ⟨_, ⟨by first | rfl | (simp [*]; done) | (simp [*]; omega) | simp_all, rfl⟩, by first | rfl | (simp [*]; done) | (simp [*]; omega) | simp_all⟩)
theorem wPut [Env] {R : List Seg} {s c : Nat} {q : Q3} {W : WitM} {D : Dev} {f : FactM} (hW : W.ok D) (hf : f.ok) :
    Con Tryz.prog 79 [ptr s, .agg f.cells.toArray] [witP s c W, celP c q W.c, dev q D] R (Is (i64 (W.put D f).1) [witP s c (W.put D f).2.1, celP c q (W.put D f).2.1.c, dev q (W.put D f).2.2]) := by
  have henc := fact_enc hf
  have hlen := fact_len hf
  refine con_enter Tryz.func79 Tryz.ntmps79 rfl rfl ?_
  unfold witP
  refine cseq ?_; intro K1 hK1
  refine creg ?_
  refine ya (ac_box (vs := f.cells) rfl rfl) rfl ?_
  rintro v L' ⟨b3, rfl, rfl⟩
  refine y (ev_assign rfl) rfl ?_
  refine ynil' (kthn (hK1 _ _ ?_))
  clear hK1
  refine cseq ?_; intro K2 hK2
  refine creg ?_
  refine y (ev_fieldAddr 0 rfl Tryz.underlying93 rfl Tryz.sizeOf2) rfl ?_
  refine y (ev_load rfl Tryz.isAgg2 zin rfl) rfl ?_
  refine y (ev_fieldAddr 1 rfl Tryz.underlying93 rfl Tryz.sizeOf3) rfl ?_
  refine y (ev_load rfl Tryz.isAgg3 zin rfl) rfl ?_
  refine y (ev_fieldAddr 2 rfl Tryz.underlying93 rfl Tryz.sizeOf3) rfl ?_
  refine y (ev_load rfl Tryz.isAgg3 zin rfl) rfl ?_
  refine y (ev_fieldAddr 3 rfl Tryz.underlying93 rfl Tryz.sizeOf2) rfl ?_
  refine y (ev_load rfl Tryz.isAgg2 zin rfl) rfl ?_
  refine y (ev_fieldAddr 4 rfl Tryz.underlying93 rfl Tryz.sizeOf91) rfl ?_
  refine y (ev_ixAddrA rfl rfl Tryz.underlying91 Tryz.sizeOf2 (by omega) (by omega)) rfl ?_
  refine y (ev_load rfl Tryz.isAgg2 zin rfl) rfl ?_
  refine y (ev_fieldAddr 4 rfl Tryz.underlying93 rfl Tryz.sizeOf91) rfl ?_
  refine y (ev_ixAddrA rfl rfl Tryz.underlying91 Tryz.sizeOf2 (by omega) (by omega)) rfl ?_
  refine y (ev_load rfl Tryz.isAgg2 zin rfl) rfl ?_
  refine ya (ac_bsliceR rfl Tryz.underlying53 Tryz.sizeOf2 Tryz.zeroValue2 rfl rfl rfl rfl ⟨⟨_, _, rfl, (by first | rfl | simp), (by first | decide | simp)⟩, ⟨⟨_, _, rfl, (by first | rfl | simp), (by first | decide | simp)⟩, ⟨⟨_, _, rfl, (by first | rfl | simp), (by first | decide | simp)⟩, ⟨⟨_, _, rfl, (by first | rfl | simp), (by first | decide | simp)⟩, ⟨⟨_, _, rfl, (by first | rfl | simp), (by first | decide | simp)⟩, ⟨⟨_, _, rfl, (by first | rfl | simp), (by first | decide | simp)⟩, trivial⟩⟩⟩⟩⟩⟩ (by dsimp [fillL, splice, vcells, reps] <;> rfl)) rfl ?_
  rintro v L' ⟨b23, rfl, rfl⟩
  refine y (ev_build (zs := _) rfl Tryz.underlying100 Tryz.zeroValue100 rfl (.cons Tryz.sizeOf3 (.cons Tryz.sizeOf53 (.cons Tryz.sizeOf98 .nil))) ⟨⟨_, _, rfl, (by first | rfl | simp), (by first | decide | simp)⟩, ⟨⟨_, _, rfl, (by first | rfl | simp), (by first | decide | simp)⟩, trivial⟩⟩ (by dsimp [fillL, splice, vcells] <;> rfl)) rfl ?_
  refine ycall (cEncode (r := factR f) ?hn80 ?ht80 ?sx80) rfl Tryz.call88 ztk rfl ?_
  case hn80 => exact rdV_in zin rfl rfl
  case ht80 => exact rdV_nil
  case sx80 => exact (fact_may hf).num
  rintro v L' ⟨s25, rfl, ok25, rfl⟩
  rw [henc] at ok25 ⊢; dsimp only at ok25 ⊢
  have hpd : W.put D f = ((W.c.put D (recB (factR f))).1, { W with c := (W.c.put D (recB (factR f))).2.1, f := if (W.c.put D (recB (factR f))).1 = 0 then f else W.f }, (W.c.put D (recB (factR f))).2.2) := rfl
  generalize recB (factR f) = rb at *
  refine y (ev_move rfl) rfl ?_
  refine y (ev_extract rfl rfl) rfl ?_
  refine y (ev_extract rfl rfl) rfl ?_
  refine y (ev_assign rfl) rfl ?_
  refine y (ev_assign rfl) rfl ?_
  refine ynil' (kthn (hK2 _ _ ?_))
  clear hK2
  refine cseq ?_; intro K3 hK3
  refine cdraw 6 [(0, true), (1, true), (2, true), (3, true), (4, true), (5, true)] ([sc s _ 97, svSeg s25 5 (bytesV rb)] ++ R) Tryz.mixed (by kernel_rfl) zge ?_
  refine hr rfl (ev_move rfl) rfl ?_
  refine hr rfl (ev_nil rfl) rfl ?_
  refine hr rfl (ev_fieldAddr 0 rfl Tryz.underlying97 rfl Tryz.sizeOf88) rfl ?_
  refine hr rfl (ev_load rfl Tryz.isAgg88 zin rfl) rfl ?_
  refine hr rfl (ev_move rfl) rfl ?_
  refine hr rfl (ev_toStrB (rdY_sv (L := [svSeg s25 5 (bytesV rb)]) .z ok25).rd.bytes zge rfl Tryz.underlying50 Tryz.underlying9 Tryz.underlying5) rfl ?_
  refine hnil ?_
  refine ycall (cPut ?cok92 ?ok92) rfl Tryz.call89 ztk rfl ?_
  case cok92 => exact hW.c
  case ok92 => exact hW.d
  rintro v L' ⟨rfl, rfl⟩
  obtain ⟨r, hr0⟩ : ∃ r, W.c.put D rb = r := ⟨_, rfl⟩
  rw [hr0] at hpd ⊢
  refine y (ev_assign rfl) rfl ?_
  refine hnoP' (kthn (hK3 _ _ ?_))
  clear hK3
  refine cseq ?_; intro K4 hK4
  refine cseq ?_; intro K5 hK5
  refine creg ?_
  refine y (ev_move rfl) rfl ?_
  refine y (ev_eql rfl rfl) rfl ?_
  refine ynil' (kthn (hK5 _ _ ?_))
  clear hK5
  refine ccond rfl (fun h96 => ?_) (fun h96 => ?_)
  ·(try simp only [sH] at h96)
   rw [if_pos h96] at hpd
   refine creg ?_
   refine y (ev_move rfl) rfl ?_
   refine y (ev_loadAll rfl Tryz.isAgg93 Tryz.sizeOf93 zin (by first | rfl | assumption | (simp [*]; done) | (simp [*]; omega))) rfl ?_
   refine y (ev_nil rfl) rfl ?_
   refine y (ev_fieldAddr 1 rfl Tryz.underlying97 rfl Tryz.sizeOf93) rfl ?_
   refine ya0 (ac_storeN rfl rfl (fact_one f) Tryz.sizeOf93 zrp rfl (by simp) rfl) ?_
   rintro v L' ⟨rfl, rfl⟩
   refine ynil' (kthn (hK4 _ _ ?_))
   clear hK4
   refine cseq ?_; intro K6 hK6
   refine creg ?_
   refine y (ev_move rfl) rfl ?_
   refine y (ev_assign rfl) rfl ?_
   refine ynil' (kthn (hK6 _ _ ?_))
   clear hK6
   refine cret ?_
   first
     | (exfalso; omega; done)
     | (refine kretv Tryz.results79 rfl (L1 := [sc s _ 97, celP c q _, dev q _] ++ R) zge ?_
        rw [hpd]; exact ⟨_, ⟨rfl, rfl⟩, rfl⟩)
  ·(try simp only [sH] at h96)
   rw [if_neg h96] at hpd
   refine cskip' (kthn (hK4 _ _ ?_))
   clear hK4
   refine cseq ?_; intro K7 hK7
   refine creg ?_
   refine y (ev_move rfl) rfl ?_
   refine y (ev_assign rfl) rfl ?_
   refine ynil' (kthn (hK7 _ _ ?_))
   clear hK7
   refine cret ?_
   first
     | (exfalso; omega; done)
     | (refine kretv Tryz.results79 rfl (L1 := [sc s _ 97, celP c q _, dev q _] ++ R) zge ?_
        rw [hpd]; exact ⟨_, ⟨rfl, rfl⟩, rfl⟩)
end W
end Go.Proofs
