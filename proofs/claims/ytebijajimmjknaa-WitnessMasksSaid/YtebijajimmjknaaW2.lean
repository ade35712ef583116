/- A part of the proof: contracts and plain lemmas, each without conditions beyond those that it names. -/
import Derived.Test.YtebijajimmjknaaW1
import Derived.Test.YtebijajimmjknaaGH
set_option linter.unusedVariables false
set_option linter.unusedSimpArgs false
set_option linter.constructorNameAsVariable false
namespace Go.Proofs
open Go Go.Sl
namespace W
set_option linter.unusedVariables false
/-! package witness -/
def witP (s c : Nat) (W : WitM) : Seg := sc s [ptr c, i64 W.f.epoch, i64 W.f.holder, i64 W.f.mask, i64 W.f.change, i64 W.f.l0, i64 W.f.l1, i64 W.left, i64 W.wait] 87
abbrev tmP (s : Nat) : Value := .pointer (some ⟨s, 7, none⟩)
theorem tSet [Env] {R : List Seg} {s c : Nat} {W : WitM} {n : Int} : Con Try.prog 56 [tmP s, i64 n] [witP s c W] R (Is (.tuple #[]) [witP s c { W with left := max n 0 }]) := by
  unfold witP
  refine con_enter Try.func56 Try.ntmps56 rfl rfl ?_
  refine creg ?_
  refine y (ev_move rfl) rfl ?_
  refine y (ev_move rfl) rfl ?_
  refine y (ev_max rfl rfl) rfl ?_
  rw [max0]
  refine y (ev_nil rfl) rfl ?_
  refine y (ev_fieldAddr 0 rfl Try.underlying85 rfl Try.sizeOf2) rfl ?_
  refine ya0 (ac_store rfl rfl (by first | rfl | exact svVal_one _ _ | assumption) Try.sizeOf2 (by repeat first | exact .z | apply Rp.s) rfl rfl) ?_
  rintro v L' ⟨rfl, rfl⟩
  refine ynil' ?_
  first
    | (exfalso; omega; done)
    | (refine kendv0 Try.results56 (L1 := [sc s _ 87] ++ R) (by repeat first | exact .refl | exact .nil | exact .z | apply Pk.s | refine Ge.e ?_ | apply Ge.pick | apply Ge.drop) ?_
       exact ⟨_, ⟨by rfl, rfl⟩, by rfl⟩)
theorem tTick [Env] {R : List Seg} {s c : Nat} {W : WitM} (hl : 0 ≤ W.left ∧ W.left ≤ 9223372036854775807) : Con Try.prog 38 [tmP s] [witP s c W] R (Is (.tuple #[]) [witP s c W.tick]) := by
  unfold witP WitM.tick
  refine con_enter Try.func38 Try.ntmps38 rfl rfl ?_
  refine creg ?_
  refine y (ev_move rfl) rfl ?_
  refine y (ev_move rfl) rfl ?_
  refine y (ev_nil rfl) rfl ?_
  refine y (ev_fieldAddr 0 rfl Try.underlying85 rfl Try.sizeOf2) rfl ?_
  refine y (ev_load rfl Try.isAgg2 (by repeat first | exact .z | apply In.s) rfl) rfl ?_
  refine y (ev_sub rfl rfl) rfl ?_
  rw [wr (by omega) (by omega)]
  refine y (ev_max rfl rfl) rfl ?_
  rw [max0]
  refine y (ev_nil rfl) rfl ?_
  refine y (ev_fieldAddr 0 rfl Try.underlying85 rfl Try.sizeOf2) rfl ?_
  refine ya0 (ac_store rfl rfl (by first | rfl | exact svVal_one _ _ | assumption) Try.sizeOf2 (by repeat first | exact .z | apply Rp.s) rfl rfl) ?_
  rintro v L' ⟨rfl, rfl⟩
  refine ynil' ?_
  first
    | (exfalso; omega; done)
    | (refine kendv0 Try.results38 (L1 := [sc s _ 87] ++ R) (by repeat first | exact .refl | exact .nil | exact .z | apply Pk.s | refine Ge.e ?_ | apply Ge.pick | apply Ge.drop) ?_
       exact ⟨_, ⟨by rfl, rfl⟩, by rfl⟩)
theorem tOn [Env] {R : List Seg} {s c : Nat} {W : WitM} : Con Try.prog 61 [tmP s] [witP s c W] R (Is (.bool (decide (0 < W.left))) [witP s c W]) := by
  unfold witP
  refine con_enter Try.func61 Try.ntmps61 rfl rfl ?_
  refine cseq ?_; intro K1 hK1
  refine creg ?_
  refine y (ev_assign rfl) rfl ?_
  refine ynil' (kthn (hK1 _ _ ?_))
  clear hK1
  refine cseq ?_; intro K2 hK2
  refine creg ?_
  refine y (ev_move rfl) rfl ?_
  refine y (ev_nil rfl) rfl ?_
  refine y (ev_fieldAddr 0 rfl Try.underlying85 rfl Try.sizeOf2) rfl ?_
  refine y (ev_load rfl Try.isAgg2 (by repeat first | exact .z | apply In.s) rfl) rfl ?_
  refine y (ev_gtr rfl rfl) rfl ?_
  refine y (ev_assign rfl) rfl ?_
  refine ynil' (kthn (hK2 _ _ ?_))
  clear hK2
  refine cret ?_
  first
    | (exfalso; omega; done)
    | (refine kretv Try.results61 rfl (L1 := [sc s _ 87] ++ R) (by repeat first | exact .refl | exact .nil | exact .z | apply Pk.s | refine Ge.e ?_ | apply Ge.pick | apply Ge.drop) ?_
       exact ⟨_, ⟨by rfl, rfl⟩, by rfl⟩)
theorem wWithin [Env] {R : List Seg} {n lo hi : Int} : Con Try.prog 54 [i64 n, i64 lo, i64 hi] [] R (Is (.bool (within3 n lo hi)) []) := by
  refine con_enter Try.func54 Try.ntmps54 rfl rfl ?_
  refine cseq ?_; intro K1 hK1
  refine creg ?_
  refine y (ev_assign rfl) rfl ?_
  refine ynil' (kthn (hK1 _ _ ?_))
  clear hK1
  refine cseq ?_; intro K2 hK2
  refine creg ?_
  refine y (ev_move rfl) rfl ?_
  refine y (ev_move rfl) rfl ?_
  refine y (ev_geq rfl rfl) rfl ?_
  refine y (ev_move rfl) rfl ?_
  refine ysplit 10 rfl (fun h29 => ?_) (fun h29 => ?_)
  · (try simp only [decide_eq_true_eq, beq_iff_eq, beq_eq_false_iff_ne, decide_eq_decide, decide_eq_false_iff_not, Bool.not_eq_true', Bool.not_eq_false', Bool.not_eq_true, Bool.not_eq_false, Bool.not_not, ne_eq, Option.isNone_some, Option.isSome_some, Option.isNone_none, Option.isSome_none] at h29)
    refine yg1 rfl rfl ?_
    refine y (ev_move rfl) rfl ?_
    refine yg1 rfl rfl ?_
    refine y (ev_move rfl) rfl ?_
    refine yg1 rfl rfl ?_
    refine y (ev_leq rfl rfl) rfl ?_
    refine y (ev_pick1 rfl rfl) rfl ?_
    refine y (ev_assign rfl) rfl ?_
    refine ynil' (kthn (hK2 _ _ ?_))
    clear hK2
    refine cret ?_
    first
      | (exfalso; omega; done)
      | (refine kretv Try.results54 rfl (L1 := R) (by repeat first | exact .refl | exact .nil | exact .z | apply Pk.s | refine Ge.e ?_ | apply Ge.pick | apply Ge.drop) ?_
         exact ⟨_, ⟨by first | rfl | (simp [within3]; omega) | (simp [within3, *]; done), rfl⟩, by first | rfl | (simp [within3]; omega) | (simp [within3, *]; done)⟩)
  · (try simp only [decide_eq_true_eq, beq_iff_eq, beq_eq_false_iff_ne, decide_eq_decide, decide_eq_false_iff_not, Bool.not_eq_true', Bool.not_eq_false', Bool.not_eq_true, Bool.not_eq_false, Bool.not_not, ne_eq, Option.isNone_some, Option.isSome_some, Option.isNone_none, Option.isSome_none] at h29)
    refine yg0 rfl rfl rfl rfl ?_
    refine yg0 rfl rfl rfl rfl ?_
    refine yg0 rfl rfl rfl rfl ?_
    refine y (ev_pick0 rfl rfl) rfl ?_
    refine y (ev_assign rfl) rfl ?_
    refine ynil' (kthn (hK2 _ _ ?_))
    clear hK2
    refine cret ?_
    first
      | (exfalso; omega; done)
      | (refine kretv Try.results54 rfl (L1 := R) (by repeat first | exact .refl | exact .nil | exact .z | apply Pk.s | refine Ge.e ?_ | apply Ge.pick | apply Ge.drop) ?_
         exact ⟨_, ⟨by first | rfl | (simp [within3]; omega) | (simp [within3, *]; done), rfl⟩, by first | rfl | (simp [within3]; omega) | (simp [within3, *]; done)⟩)
theorem wTick [Env] {R : List Seg} {s c : Nat} {W : WitM} (hl : 0 ≤ W.left ∧ W.left ≤ 9223372036854775807) : Con Try.prog 15 [ptr s] [witP s c W] R (Is (.tuple #[]) [witP s c W.tick]) := by
  refine con_enter Try.func15 Try.ntmps15 rfl rfl ?_
  refine creg ?_
  refine y (ev_move rfl) rfl ?_
  refine y (ev_nil rfl) rfl ?_
  refine y (ev_fieldAddr 7 rfl Try.underlying87 rfl Try.sizeOf85) rfl ?_
  refine ycall (tTick ?lf40) rfl Try.call38 (by repeat first | exact .nil | exact .z | apply Pk.s | apply Tk.cons) rfl ?_
  case lf40 => exact hl
  rintro v L' ⟨rfl, rfl⟩
  refine ynil' ?_
  first
    | (exfalso; omega; done)
    | (refine kendv0 Try.results15 (L1 := _) (by repeat first | exact .refl | exact .nil | exact .z | apply Pk.s | refine Ge.e ?_ | apply Ge.pick | apply Ge.drop) ?_
       exact ⟨_, ⟨by first | rfl | (simp [*]; done) | (simp [*]; omega) | simp_all, rfl⟩, by first | rfl | (simp [*]; done) | (simp [*]; omega) | simp_all⟩)
theorem wEpoch [Env] {R : List Seg} {s c : Nat} {W : WitM} : Con Try.prog 18 [ptr s] [witP s c W] R (Is (i64 W.f.epoch) [witP s c W]) := by
  unfold witP
  refine con_enter Try.func18 Try.ntmps18 rfl rfl ?_
  refine cseq ?_; intro K1 hK1
  refine creg ?_
  refine y (ev_assign rfl) rfl ?_
  refine ynil' (kthn (hK1 _ _ ?_))
  clear hK1
  refine cseq ?_; intro K2 hK2
  refine creg ?_
  refine y (ev_move rfl) rfl ?_
  refine y (ev_nil rfl) rfl ?_
  refine y (ev_fieldAddr 1 rfl Try.underlying87 rfl Try.sizeOf83) rfl ?_
  refine y (ev_fieldAddr 0 rfl Try.underlying83 rfl Try.sizeOf2) rfl ?_
  refine y (ev_load rfl Try.isAgg2 (by repeat first | exact .z | apply In.s) rfl) rfl ?_
  refine y (ev_assign rfl) rfl ?_
  refine ynil' (kthn (hK2 _ _ ?_))
  clear hK2
  refine cret ?_
  first
    | (exfalso; omega; done)
    | (refine kretv Try.results18 rfl (L1 := _) (by repeat first | exact .refl | exact .nil | exact .z | apply Pk.s | refine Ge.e ?_ | apply Ge.pick | apply Ge.drop) ?_
       exact ⟨_, ⟨by first | rfl | (simp [*]; done) | (simp [*]; omega) | simp_all, rfl⟩, by first | rfl | (simp [*]; done) | (simp [*]; omega) | simp_all⟩)
theorem wMask [Env] {R : List Seg} {s c : Nat} {W : WitM} : Con Try.prog 17 [ptr s] [witP s c W] R (Is (i64 W.f.mask) [witP s c W]) := by
  unfold witP
  refine con_enter Try.func17 Try.ntmps17 rfl rfl ?_
  refine cseq ?_; intro K1 hK1
  refine creg ?_
  refine y (ev_assign rfl) rfl ?_
  refine ynil' (kthn (hK1 _ _ ?_))
  clear hK1
  refine cseq ?_; intro K2 hK2
  refine creg ?_
  refine y (ev_move rfl) rfl ?_
  refine y (ev_nil rfl) rfl ?_
  refine y (ev_fieldAddr 1 rfl Try.underlying87 rfl Try.sizeOf83) rfl ?_
  refine y (ev_fieldAddr 2 rfl Try.underlying83 rfl Try.sizeOf3) rfl ?_
  refine y (ev_load rfl Try.isAgg3 (by repeat first | exact .z | apply In.s) rfl) rfl ?_
  refine y (ev_assign rfl) rfl ?_
  refine ynil' (kthn (hK2 _ _ ?_))
  clear hK2
  refine cret ?_
  first
    | (exfalso; omega; done)
    | (refine kretv Try.results17 rfl (L1 := _) (by repeat first | exact .refl | exact .nil | exact .z | apply Pk.s | refine Ge.e ?_ | apply Ge.pick | apply Ge.drop) ?_
       exact ⟨_, ⟨by first | rfl | (simp [*]; done) | (simp [*]; omega) | simp_all, rfl⟩, by first | rfl | (simp [*]; done) | (simp [*]; omega) | simp_all⟩)
theorem wHolder [Env] {R : List Seg} {s c : Nat} {W : WitM} : Con Try.prog 19 [ptr s] [witP s c W] R (Is (i64 W.f.holder) [witP s c W]) := by
  unfold witP
  refine con_enter Try.func19 Try.ntmps19 rfl rfl ?_
  refine cseq ?_; intro K1 hK1
  refine creg ?_
  refine y (ev_assign rfl) rfl ?_
  refine ynil' (kthn (hK1 _ _ ?_))
  clear hK1
  refine cseq ?_; intro K2 hK2
  refine creg ?_
  refine y (ev_move rfl) rfl ?_
  refine y (ev_nil rfl) rfl ?_
  refine y (ev_fieldAddr 1 rfl Try.underlying87 rfl Try.sizeOf83) rfl ?_
  refine y (ev_fieldAddr 1 rfl Try.underlying83 rfl Try.sizeOf3) rfl ?_
  refine y (ev_load rfl Try.isAgg3 (by repeat first | exact .z | apply In.s) rfl) rfl ?_
  refine y (ev_assign rfl) rfl ?_
  refine ynil' (kthn (hK2 _ _ ?_))
  clear hK2
  refine cret ?_
  first
    | (exfalso; omega; done)
    | (refine kretv Try.results19 rfl (L1 := _) (by repeat first | exact .refl | exact .nil | exact .z | apply Pk.s | refine Ge.e ?_ | apply Ge.pick | apply Ge.drop) ?_
       exact ⟨_, ⟨by first | rfl | (simp [*]; done) | (simp [*]; omega) | simp_all, rfl⟩, by first | rfl | (simp [*]; done) | (simp [*]; omega) | simp_all⟩)
theorem wPut [Env] {R : List Seg} {s c : Nat} {q : Q3} {W : WitM} {D : Dev} {f : FactM} (hW : W.ok D) (hf : f.ok) :
    Con Try.prog 60 [ptr s, .agg f.cells.toArray] [witP s c W, celP c q W.c, dev q D] R (Is (i64 (W.put D f).1) [witP s c (W.put D f).2.1, celP c q (W.put D f).2.1.c, dev q (W.put D f).2.2]) := by
  have henc := fact_enc hf
  have hlen := fact_len hf
  refine con_enter Try.func60 Try.ntmps60 rfl rfl ?_
  unfold witP
  refine cseq ?_; intro K1 hK1
  refine creg ?_
  refine ya (ac_box (vs := f.cells) rfl rfl) rfl ?_
  rintro v L' ⟨b3, rfl, rfl⟩
  refine y (ev_assign rfl) rfl ?_
  refine ynil' (kthn (hK1 _ _ ?_))
  clear hK1
  refine cseq ?_; intro K2 hK2
  refine creg ?_
  refine y (ev_fieldAddr 0 rfl Try.underlying83 rfl Try.sizeOf2) rfl ?_
  refine y (ev_load rfl Try.isAgg2 (by repeat first | exact .z | apply In.s) rfl) rfl ?_
  refine y (ev_fieldAddr 1 rfl Try.underlying83 rfl Try.sizeOf3) rfl ?_
  refine y (ev_load rfl Try.isAgg3 (by repeat first | exact .z | apply In.s) rfl) rfl ?_
  refine y (ev_fieldAddr 2 rfl Try.underlying83 rfl Try.sizeOf3) rfl ?_
  refine y (ev_load rfl Try.isAgg3 (by repeat first | exact .z | apply In.s) rfl) rfl ?_
  refine y (ev_fieldAddr 3 rfl Try.underlying83 rfl Try.sizeOf2) rfl ?_
  refine y (ev_load rfl Try.isAgg2 (by repeat first | exact .z | apply In.s) rfl) rfl ?_
  refine y (ev_fieldAddr 4 rfl Try.underlying83 rfl Try.sizeOf67) rfl ?_
  refine y (ev_ixAddrA rfl rfl Try.underlying67 Try.sizeOf2 (by omega) (by omega)) rfl ?_
  refine y (ev_load rfl Try.isAgg2 (by repeat first | exact .z | apply In.s) rfl) rfl ?_
  refine y (ev_fieldAddr 4 rfl Try.underlying83 rfl Try.sizeOf67) rfl ?_
  refine y (ev_ixAddrA rfl rfl Try.underlying67 Try.sizeOf2 (by omega) (by omega)) rfl ?_
  refine y (ev_load rfl Try.isAgg2 (by repeat first | exact .z | apply In.s) rfl) rfl ?_
  refine ya (ac_bsliceR rfl Try.underlying100 Try.sizeOf2 Try.zeroValue2 rfl rfl rfl rfl ⟨⟨_, _, rfl, (by first | rfl | simp), (by first | decide | simp)⟩, ⟨⟨_, _, rfl, (by first | rfl | simp), (by first | decide | simp)⟩, ⟨⟨_, _, rfl, (by first | rfl | simp), (by first | decide | simp)⟩, ⟨⟨_, _, rfl, (by first | rfl | simp), (by first | decide | simp)⟩, ⟨⟨_, _, rfl, (by first | rfl | simp), (by first | decide | simp)⟩, ⟨⟨_, _, rfl, (by first | rfl | simp), (by first | decide | simp)⟩, trivial⟩⟩⟩⟩⟩⟩ (by dsimp [fillL, splice, vcells, reps] <;> rfl)) rfl ?_
  rintro v L' ⟨b23, rfl, rfl⟩
  refine y (ev_build (zs := _) rfl Try.underlying102 Try.zeroValue102 rfl (.cons Try.sizeOf3 (.cons Try.sizeOf100 (.cons Try.sizeOf48 .nil))) ⟨⟨_, _, rfl, (by first | rfl | simp), (by first | decide | simp)⟩, ⟨⟨_, _, rfl, (by first | rfl | simp), (by first | decide | simp)⟩, trivial⟩⟩ (by dsimp [fillL, splice, vcells] <;> rfl)) rfl ?_
  refine ycall (cEncode (r := factR f) ?hn80 ?ht80 ?sx80) rfl Try.call62 (by repeat first | exact .nil | exact .z | apply Pk.s | apply Tk.cons) rfl ?_
  case hn80 => exact rdV_in (by repeat first | exact .z | apply In.s) rfl rfl
  case ht80 => exact rdV_nil
  case sx80 => exact (fact_may hf).num
  rintro v L' ⟨s25, rfl, ok25, rfl⟩
  rw [henc] at ok25 ⊢; dsimp only at ok25 ⊢
  have hpd : W.put D f = ((W.c.put D (recB (factR f))).1, { W with c := (W.c.put D (recB (factR f))).2.1, f := if (W.c.put D (recB (factR f))).1 = 0 then f else W.f }, (W.c.put D (recB (factR f))).2.2) := rfl
  generalize recB (factR f) = rb at *
  refine y (ev_move rfl) rfl ?_
  refine y (ev_extract rfl rfl) rfl ?_
  refine y (ev_extract rfl rfl) rfl ?_
  refine y (ev_assign rfl) rfl ?_
  refine y (ev_assign rfl) rfl ?_
  refine ynil' (kthn (hK2 _ _ ?_))
  clear hK2
  refine cseq ?_; intro K3 hK3
  refine cdraw 6 [(0, true), (1, true), (2, true), (3, true), (4, true), (5, true)] ([sc s _ 87, svSeg s25 5 (bytesV rb)] ++ R) Try.mixed (by kernel_rfl) (by repeat first | exact .refl | exact .nil | exact .z | apply Pk.s | refine Ge.e ?_ | apply Ge.pick | apply Ge.drop) ?_
  refine hr rfl (ev_move rfl) rfl ?_
  refine hr rfl (ev_nil rfl) rfl ?_
  refine hr rfl (ev_fieldAddr 0 rfl Try.underlying87 rfl Try.sizeOf81) rfl ?_
  refine hr rfl (ev_load rfl Try.isAgg81 (by repeat first | exact .z | apply In.s) rfl) rfl ?_
  refine hr rfl (ev_move rfl) rfl ?_
  refine hr rfl (ev_toStrB (rdY_sv (L := [svSeg s25 5 (bytesV rb)]) .z ok25).rd.bytes (by repeat first | exact .refl | exact .nil | exact .z | apply Pk.s | refine Ge.e ?_ | apply Ge.pick | apply Ge.drop) rfl Try.underlying23 Try.underlying9 Try.underlying5) rfl ?_
  refine hnil ?_
  refine ycall (cPut ?cok92 ?ok92) rfl Try.call63 (by repeat first | exact .nil | exact .z | apply Pk.s | apply Tk.cons) rfl ?_
  case cok92 => exact hW.c
  case ok92 => exact hW.d
  rintro v L' ⟨rfl, rfl⟩
  obtain ⟨r, hr0⟩ : ∃ r, W.c.put D rb = r := ⟨_, rfl⟩
  rw [hr0] at hpd ⊢
  refine y (ev_assign rfl) rfl ?_
  refine hnoP' (kthn (hK3 _ _ ?_))
  clear hK3
  refine cseq ?_; intro K4 hK4
  refine cseq ?_; intro K5 hK5
  refine creg ?_
  refine y (ev_move rfl) rfl ?_
  refine y (ev_eql rfl rfl) rfl ?_
  refine ynil' (kthn (hK5 _ _ ?_))
  clear hK5
  refine ccond rfl (fun h96 => ?_) (fun h96 => ?_)
  · (try simp only [decide_eq_true_eq, beq_iff_eq, beq_eq_false_iff_ne, decide_eq_decide, decide_eq_false_iff_not, Bool.not_eq_true', Bool.not_eq_false', Bool.not_eq_true, Bool.not_eq_false, Bool.not_not, ne_eq, Option.isNone_some, Option.isSome_some, Option.isNone_none, Option.isSome_none] at h96)
    rw [if_pos h96] at hpd
    refine creg ?_
    refine y (ev_move rfl) rfl ?_
    refine y (ev_loadAll rfl Try.isAgg83 Try.sizeOf83 (by repeat first | exact .z | apply In.s) (by first | rfl | assumption | (simp [*]; done) | (simp [*]; omega))) rfl ?_
    refine y (ev_nil rfl) rfl ?_
    refine y (ev_fieldAddr 1 rfl Try.underlying87 rfl Try.sizeOf83) rfl ?_
    refine ya0 (ac_storeN rfl rfl (fact_one f) Try.sizeOf83 (by repeat first | exact .z | apply Rp.s) rfl (by simp) rfl) ?_
    rintro v L' ⟨rfl, rfl⟩
    refine ynil' (kthn (hK4 _ _ ?_))
    clear hK4
    refine cseq ?_; intro K6 hK6
    refine creg ?_
    refine y (ev_move rfl) rfl ?_
    refine y (ev_assign rfl) rfl ?_
    refine ynil' (kthn (hK6 _ _ ?_))
    clear hK6
    refine cret ?_
    first
      | (exfalso; omega; done)
      | (refine kretv Try.results60 rfl (L1 := [sc s _ 87, celP c q _, dev q _] ++ R) (by repeat first | exact .refl | exact .nil | exact .z | apply Pk.s | refine Ge.e ?_ | apply Ge.pick | apply Ge.drop) ?_
         rw [hpd]; exact ⟨_, ⟨rfl, rfl⟩, rfl⟩)
  · (try simp only [decide_eq_true_eq, beq_iff_eq, beq_eq_false_iff_ne, decide_eq_decide, decide_eq_false_iff_not, Bool.not_eq_true', Bool.not_eq_false', Bool.not_eq_true, Bool.not_eq_false, Bool.not_not, ne_eq, Option.isNone_some, Option.isSome_some, Option.isNone_none, Option.isSome_none] at h96)
    rw [if_neg h96] at hpd
    refine cskip' (kthn (hK4 _ _ ?_))
    clear hK4
    refine cseq ?_; intro K7 hK7
    refine creg ?_
    refine y (ev_move rfl) rfl ?_
    refine y (ev_assign rfl) rfl ?_
    refine ynil' (kthn (hK7 _ _ ?_))
    clear hK7
    refine cret ?_
    first
      | (exfalso; omega; done)
      | (refine kretv Try.results60 rfl (L1 := [sc s _ 87, celP c q _, dev q _] ++ R) (by repeat first | exact .refl | exact .nil | exact .z | apply Pk.s | refine Ge.e ?_ | apply Ge.pick | apply Ge.drop) ?_
         rw [hpd]; exact ⟨_, ⟨rfl, rfl⟩, rfl⟩)
end W
end Go.Proofs
