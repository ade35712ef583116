/- A part of the proof: contracts and plain lemmas, each without conditions beyond those that it names. -/
import Derived.Test.YtnfbhgalkcmbdaaGreatR2
import Derived.Test.YtnfbhgalkcmbdaaGreatGK
set_option linter.unusedVariables false
set_option linter.unusedSimpArgs false
set_option linter.constructorNameAsVariable false
namespace Go.Proofs
open Go Go.Sl
namespace W
set_option linter.unusedVariables false
def drlP (l c : Nat) (L : DrlM) : Seg := sc l [ptr c, i64 L.n, i64 (regs L.n), u64 L.bits] 79
theorem dIn [Env] {R : List Seg} {l c : Nat} {L : DrlM} {i : Int} : Con Tryz.prog 39 [ptr l, i64 i] [drlP l c L] R (Is (.bool (inR L.n i)) [drlP l c L]) := by
  unfold drlP
  refine con_enter Tryz.func39 Tryz.ntmps39 rfl rfl ?_
  refine cseq ?_; intro K1 hK1
  refine creg ?_
  refine y (ev_assign rfl) rfl ?_
  refine ynil' (kthn (hK1 _ _ ?_))
  clear hK1
  refine cseq ?_; intro K2 hK2
  refine creg ?_
  refine y (ev_move rfl) rfl ?_
  refine y (ev_geq rfl rfl) rfl ?_
  refine y (ev_move rfl) rfl ?_
  refine ysplit 7 rfl (fun h5 => ?_) (fun h5 => ?_)
  ·(try simp only [sH] at h5)
   refine yg1 rfl rfl ?_
   refine y (ev_move rfl) rfl ?_
   refine yg1 rfl rfl ?_
   refine y (ev_move rfl) rfl ?_
   refine yg1 rfl rfl ?_
   refine y (ev_nil rfl) rfl ?_
   refine yg1 rfl rfl ?_
   refine y (ev_fieldAddr 1 rfl Tryz.underlying79 rfl Tryz.sizeOf3) rfl ?_
   refine yg1 rfl rfl ?_
   refine y (ev_load rfl Tryz.isAgg3 (by repeat first | exact .z | apply In.s) rfl) rfl ?_
   refine yg1 rfl rfl ?_
   refine y (ev_lss rfl rfl) rfl ?_
   refine y (ev_pick1 rfl rfl) rfl ?_
   refine y (ev_assign rfl) rfl ?_
   refine ynil' (kthn (hK2 _ _ ?_))
   clear hK2
   refine cret ?_
   first
     | (exfalso; omega; done)
     | (refine kretv Tryz.results39 rfl (L1 := [sc l _ 79] ++ R) (by repeat first | exact .refl | exact .nil | exact .z | apply Pk.s | refine Ge.e ?_ | apply Ge.pick | apply Ge.drop) ?_
        exact ⟨_, ⟨by unfold inR; first | (rw [decide_eq_true (show 0 ≤ i by omega)]; rfl) | (rw [decide_eq_false (show ¬ 0 ≤ i by omega)]; rfl), rfl⟩, rfl⟩)
  ·(try simp only [sH] at h5)
   refine yg0 rfl rfl rfl rfl ?_
   refine yg0 rfl rfl rfl rfl ?_
   refine yg0 rfl rfl rfl rfl ?_
   refine yg0 rfl rfl rfl rfl ?_
   refine yg0 rfl rfl rfl rfl ?_
   refine yg0 rfl rfl rfl rfl ?_
   refine y (ev_pick0 rfl rfl) rfl ?_
   refine y (ev_assign rfl) rfl ?_
   refine ynil' (kthn (hK2 _ _ ?_))
   clear hK2
   refine cret ?_
   first
     | (exfalso; omega; done)
     | (refine kretv Tryz.results39 rfl (L1 := [sc l _ 79] ++ R) (by repeat first | exact .refl | exact .nil | exact .z | apply Pk.s | refine Ge.e ?_ | apply Ge.pick | apply Ge.drop) ?_
        exact ⟨_, ⟨by unfold inR; first | (rw [decide_eq_true (show 0 ≤ i by omega)]; rfl) | (rw [decide_eq_false (show ¬ 0 ≤ i by omega)]; rfl), rfl⟩, rfl⟩)
theorem dHas [Env] {R : List Seg} {l c : Nat} {L : DrlM} {i : Int} (hn : 1 ≤ L.n ∧ L.n ≤ 32) (hb : L.bits < 2 ^ regs L.n) (h1 : -9223372036854775808 ≤ i) (h2 : i ≤ 9223372036854775807) : Con Tryz.prog 24 [ptr l, i64 i] [drlP l c L] R (Is (.bool (L.has i)) [drlP l c L]) := by
  have hreg := regs_le hn
  refine con_enter Tryz.func24 Tryz.ntmps24 rfl rfl ?_
  refine cseq ?_; intro K1 hK1
  refine creg ?_
  refine y (ev_assign rfl) rfl ?_
  refine ynil' (kthn (hK1 _ _ ?_))
  clear hK1
  refine cseq ?_; intro K2 hK2
  refine creg ?_
  refine y (ev_move rfl) rfl ?_
  refine y (ev_move rfl) rfl ?_
  refine ycall (dIn) rfl Tryz.call39 (by repeat first | exact .nil | exact .z | apply Pk.s | apply Tk.cons) rfl ?_
  rintro v L' ⟨rfl, rfl⟩
  refine y (ev_move rfl) rfl ?_
  refine ysplit 8 rfl (fun h21 => ?_) (fun h21 => ?_)
  ·(try simp only [sH] at h21)
   obtain ⟨hi0, hi1⟩ := inR_iff.1 h21
   have hh : L.has i = hasR (regs L.n) L.bits (i / 4) := by unfold DrlM.has; rw [h21, Bool.true_and]
   unfold drlP
   refine yg1 rfl rfl ?_
   refine y (ev_move rfl) rfl ?_
   refine yg1 rfl rfl ?_
   refine y (ev_nil rfl) rfl ?_
   refine yg1 rfl rfl ?_
   refine y (ev_fieldAddr 2 rfl Tryz.underlying79 rfl Tryz.sizeOf54) rfl ?_
   refine yg1 rfl rfl ?_
   refine y (ev_loadN (u := [i64 (regs L.n), u64 L.bits]) rfl Tryz.isAgg54 Tryz.sizeOf54 (by repeat first | exact .z | apply In.s) rfl rfl) rfl ?_
   refine yg1 rfl rfl ?_
   refine y (ev_move rfl) rfl ?_
   refine yg1 rfl rfl ?_
   refine y (ev_quo rfl rfl (by decide)) rfl ?_
   rw [Int.tdiv_eq_ediv_of_nonneg hi0, wr (by omega) (by omega)]
   refine yg1 rfl rfl ?_
   refine ycall (xHas ?xn28 ?xb28) rfl Tryz.call51 (by repeat first | exact .nil | exact .z | apply Pk.s | apply Tk.cons) rfl ?_
   case xn28 => omega
   case xb28 => exact hb
   rintro v L' ⟨rfl, rfl⟩
   refine y (ev_pick1 rfl rfl) rfl ?_
   refine y (ev_assign rfl) rfl ?_
   refine ynil' (kthn (hK2 _ _ ?_))
   clear hK2
   refine cret ?_
   first
     | (exfalso; omega; done)
     | (refine kretv Tryz.results24 rfl (L1 := [drlP l c L] ++ R) (by repeat first | exact .refl | exact .nil | exact .z | apply Pk.s | refine Ge.e ?_ | apply Ge.pick | apply Ge.drop) ?_
        exact ⟨_, ⟨by rw [hh], rfl⟩, rfl⟩)
  ·(try simp only [sH] at h21)
   have hh : L.has i = false := by unfold DrlM.has; rw [h21]; rfl
   refine yg0 rfl rfl rfl rfl ?_
   refine yg0 rfl rfl rfl rfl ?_
   refine yg0 rfl rfl rfl rfl ?_
   refine yg0 rfl rfl rfl rfl ?_
   refine yg0 rfl rfl rfl rfl ?_
   refine yg0 rfl rfl rfl rfl ?_
   refine yg0 rfl rfl rfl rfl ?_
   refine y (ev_pick0 rfl rfl) rfl ?_
   refine y (ev_assign rfl) rfl ?_
   refine ynil' (kthn (hK2 _ _ ?_))
   clear hK2
   refine cret ?_
   first
     | (exfalso; omega; done)
     | (refine kretv Tryz.results24 rfl (L1 := [drlP l c L] ++ R) (by repeat first | exact .refl | exact .nil | exact .z | apply Pk.s | refine Ge.e ?_ | apply Ge.pick | apply Ge.drop) ?_
        exact ⟨_, ⟨by rw [hh], rfl⟩, rfl⟩)
theorem dRow [Env] {R : List Seg} {l c : Nat} {L : DrlM} : Con Tryz.prog 26 [ptr l] [drlP l c L] R (Is (rowV (regs L.n) L.bits) [drlP l c L]) := by
  unfold drlP
  refine con_enter Tryz.func26 Tryz.ntmps26 rfl rfl ?_
  refine cseq ?_; intro K1 hK1
  refine creg ?_
  refine ya (ac_alloc Tryz.zeroValue54 rfl) rfl ?_
  rintro v L' ⟨b2, rfl, rfl⟩
  refine ynil' (kthn (hK1 _ _ ?_))
  clear hK1
  refine cseq ?_; intro K2 hK2
  refine creg ?_
  refine y (ev_move rfl) rfl ?_
  refine y (ev_nil rfl) rfl ?_
  refine y (ev_fieldAddr 2 rfl Tryz.underlying79 rfl Tryz.sizeOf54) rfl ?_
  refine y (ev_loadN (u := [i64 (regs L.n), u64 L.bits]) rfl Tryz.isAgg54 Tryz.sizeOf54 (by repeat first | exact .z | apply In.s) rfl rfl) rfl ?_
  refine ya0 (ac_storeAll rfl rfl (u64_one _ _) Tryz.sizeOf54 (by repeat first | exact .z | apply Rp.s) (by rfl) (by rfl)) ?_
  rintro v L' ⟨rfl, rfl⟩
  refine ynil' (kthn (hK2 _ _ ?_))
  clear hK2
  refine cret ?_
  first
    | (exfalso; omega; done)
    | (refine kretc Tryz.results26 rfl Tryz.isAgg54 Tryz.sizeOf54 (by repeat first | exact .z | apply In.s) (rfl) (L1 := [sc l _ 79] ++ R) (by repeat first | exact .refl | exact .nil | exact .z | apply Pk.s | refine Ge.e ?_ | apply Ge.pick | apply Ge.drop) ?_
       exact ⟨_, ⟨rfl, rfl⟩, rfl⟩)
theorem dSet [Env] {R : List Seg} {l c : Nat} {q : Q3} {L : DrlM} {D : Dev} {n b : Nat} (hL : L.ok D) (hn : n = regs L.n) (hb : b < 2 ^ regs L.n) : Con Tryz.prog 41 [ptr l, rowV n b] [drlP l c L, celP c q L.c, dev q D] R (Is (i64 (L.set D b).1) [drlP l c (L.set D b).2.1, celP c q (L.set D b).2.1.c, dev q (L.set D b).2.2]) := by
  subst hn
  have hreg := regs_le hL.n
  have hset : L.set D b = ((L.c.put D (textR (regs L.n) b)).1, { L with c := (L.c.put D (textR (regs L.n) b)).2.1, bits := if (L.c.put D (textR (regs L.n) b)).1 = 0 then b else L.bits }, (L.c.put D (textR (regs L.n) b)).2.2) := rfl
  refine con_enter Tryz.func41 Tryz.ntmps41 rfl rfl ?_
  unfold drlP
  refine cseq ?_; intro K1 hK1
  refine creg ?_
  refine ya (ac_box (vs := [i64 (regs L.n), u64 b]) rfl rfl) rfl ?_
  rintro v L' ⟨b3, rfl, rfl⟩
  refine y (ev_assign rfl) rfl ?_
  refine ynil' (kthn (hK1 _ _ ?_))
  clear hK1
  refine cseq ?_; intro K2 hK2
  refine cdraw 6 [(0, true), (1, true), (2, true), (3, true), (4, true), (5, false)] ([sc l _ 79, sc b3 [i64 (regs L.n), u64 b] 54] ++ R) Tryz.mixed (by kernel_rfl) (by repeat first | exact .refl | exact .nil | exact .z | apply Pk.s | refine Ge.e ?_ | apply Ge.pick | apply Ge.drop) ?_
  refine hr rfl (ev_move rfl) rfl ?_
  refine hr rfl (ev_nil rfl) rfl ?_
  refine hr rfl (ev_fieldAddr 0 rfl Tryz.underlying79 rfl Tryz.sizeOf74) rfl ?_
  refine hr rfl (ev_load rfl Tryz.isAgg74 (by repeat first | exact .z | apply In.s) rfl) rfl ?_
  refine hr rfl (ev_loadN (u := [i64 (regs L.n), u64 b]) rfl Tryz.isAgg54 Tryz.sizeOf54 (by repeat first | exact .z | apply In.s) rfl rfl) rfl ?_
  refine hcall rfl (xText ?xn46 ?xb46) rfl Tryz.call27 (by repeat first | exact .nil | exact .z | apply Pk.s | apply Tk.cons) rfl ?_
  case xn46 => omega
  case xb46 => exact hb
  rintro v L' ⟨rfl, rfl⟩; refine ⟨(by repeat first | exact .refl | exact .nil | exact .z | apply Pk.s | refine Ge.e ?_ | apply Ge.pick | apply Ge.drop), ?_⟩
  refine hnil ?_
  refine ycall (cPut ?cok47 ?ok47) rfl Tryz.call59 (by repeat first | exact .nil | exact .z | apply Pk.s | apply Tk.cons) rfl ?_
  case cok47 => exact hL.c
  case ok47 => exact hL.d
  rintro v L' ⟨rfl, rfl⟩
  obtain ⟨r, hr0⟩ : ∃ r, L.c.put D (textR (regs L.n) b) = r := ⟨_, rfl⟩
  rw [hr0] at hset ⊢
  refine y (ev_assign rfl) rfl ?_
  refine hnoP' (kthn (hK2 _ _ ?_))
  clear hK2
  refine cseq ?_; intro K3 hK3
  refine cseq ?_; intro K4 hK4
  refine creg ?_
  refine y (ev_move rfl) rfl ?_
  refine y (ev_eql rfl rfl) rfl ?_
  refine ynil' (kthn (hK4 _ _ ?_))
  clear hK4
  refine ccond rfl (fun h51 => ?_) (fun h51 => ?_)
  ·(try simp only [sH] at h51)
   rw [if_pos h51] at hset
   refine creg ?_
   refine y (ev_move rfl) rfl ?_
   refine y (ev_loadN (u := [i64 (regs L.n), u64 b]) rfl Tryz.isAgg54 Tryz.sizeOf54 (by repeat first | exact .z | apply In.s) rfl rfl) rfl ?_
   refine y (ev_nil rfl) rfl ?_
   refine y (ev_fieldAddr 2 rfl Tryz.underlying79 rfl Tryz.sizeOf54) rfl ?_
   refine ya0 (ac_storeN rfl rfl (u64_one _ _) Tryz.sizeOf54 (by repeat first | exact .z | apply Rp.s) rfl (by simp) rfl) ?_
   rintro v L' ⟨rfl, rfl⟩
   refine ynil' (kthn (hK3 _ _ ?_))
   clear hK3
   refine cseq ?_; intro K5 hK5
   refine creg ?_
   refine y (ev_move rfl) rfl ?_
   refine y (ev_assign rfl) rfl ?_
   refine ynil' (kthn (hK5 _ _ ?_))
   clear hK5
   refine cret ?_
   first
     | (exfalso; omega; done)
     | (refine kretv Tryz.results41 rfl (L1 := [sc l _ 79, celP c q _, dev q _] ++ R) (by repeat first | exact .refl | exact .nil | exact .z | apply Pk.s | refine Ge.e ?_ | apply Ge.pick | apply Ge.drop) ?_
        rw [hset]; exact ⟨_, ⟨rfl, rfl⟩, rfl⟩)
  ·(try simp only [sH] at h51)
   rw [if_neg h51] at hset
   refine cskip' (kthn (hK3 _ _ ?_))
   clear hK3
   refine cseq ?_; intro K6 hK6
   refine creg ?_
   refine y (ev_move rfl) rfl ?_
   refine y (ev_assign rfl) rfl ?_
   refine ynil' (kthn (hK6 _ _ ?_))
   clear hK6
   refine cret ?_
   first
     | (exfalso; omega; done)
     | (refine kretv Tryz.results41 rfl (L1 := [sc l _ 79, celP c q _, dev q _] ++ R) (by repeat first | exact .refl | exact .nil | exact .z | apply Pk.s | refine Ge.e ?_ | apply Ge.pick | apply Ge.drop) ?_
        rw [hset]; exact ⟨_, ⟨rfl, rfl⟩, rfl⟩)
theorem dMark [Env] {R : List Seg} {l c : Nat} {q : Q3} {L : DrlM} {D : Dev} {i : Int} (hL : L.ok D) (h1 : -9223372036854775808 ≤ i) (h2 : i ≤ 9223372036854775807) : Con Tryz.prog 10 [ptr l, i64 i] [drlP l c L, celP c q L.c, dev q D] R (Is (i64 (L.mark D i).1) [drlP l c (L.mark D i).2.1, celP c q (L.mark D i).2.1.c, dev q (L.mark D i).2.2]) := by
  have hreg := regs_le hL.n
  refine con_enter Tryz.func10 Tryz.ntmps10 rfl rfl ?_
  refine cseq ?_; intro K1 hK1
  refine creg ?_
  refine y (ev_assign rfl) rfl ?_
  refine ynil' (kthn (hK1 _ _ ?_))
  clear hK1
  refine cseq ?_; intro K2 hK2
  refine cblock ?_
  refine cseq ?_; intro K3 hK3
  refine creg ?_
  refine y (ev_move rfl) rfl ?_
  refine y (ev_move rfl) rfl ?_
  refine ycall (dIn) rfl Tryz.call39 (by repeat first | exact .nil | exact .z | apply Pk.s | apply Tk.cons) rfl ?_
  rintro v L' ⟨rfl, rfl⟩
  refine y (ev_not rfl) rfl ?_
  refine y (ev_assign rfl) rfl ?_
  refine ynil' (kthn (hK3 _ _ ?_))
  clear hK3
  refine ccond rfl (fun h67 => ?_) (fun h67 => ?_)
  ·(try simp only [sH] at h67)
   have hin : inR L.n i = false := by simpa using h67
   have hmk : L.mark D i = (2, L, D) := by unfold DrlM.mark; rw [if_pos hin]
   refine cseq ?_; intro K4 hK4
   refine creg ?_
   refine y (ev_assign rfl) rfl ?_
   refine ynil' (kthn (hK4 _ _ ?_))
   clear hK4
   refine cret (kbr (kthr ?_))
   first
     | (exfalso; omega; done)
     | (refine kretv Tryz.results10 rfl (L1 := [drlP l c _, celP c q _, dev q _] ++ R) (by repeat first | exact .refl | exact .nil | exact .z | apply Pk.s | refine Ge.e ?_ | apply Ge.pick | apply Ge.drop) ?_
        rw [hmk]; exact ⟨_, ⟨rfl, rfl⟩, rfl⟩)
  ·(try simp only [sH] at h67)
   have hin : inR L.n i = true := by simpa using h67
   obtain ⟨hi0, hi1⟩ := inR_iff.1 hin
   refine cseq ?_; intro K5 hK5
   refine creg ?_
   refine y (ev_move rfl) rfl ?_
   refine y (ev_move rfl) rfl ?_
   refine ycall (dHas ?dn71 ?db71 ?di71 ?dj71) rfl Tryz.call24 (by repeat first | exact .nil | exact .z | apply Pk.s | apply Tk.cons) rfl ?_
   case dn71 => exact hL.n
   case db71 => exact hL.bits
   case di71 => omega
   case dj71 => omega
   rintro v L' ⟨rfl, rfl⟩
   refine y (ev_assign rfl) rfl ?_
   refine ynil' (kthn (hK5 _ _ ?_))
   clear hK5
   refine ccond rfl (fun h73 => ?_) (fun h73 => ?_)
   ·(try simp only [sH] at h73)
    have hmk : L.mark D i = (0, L, D) := by unfold DrlM.mark; rw [if_neg (by rw [hin]; decide), if_pos h73]
    refine cseq ?_; intro K6 hK6
    refine creg ?_
    refine y (ev_assign rfl) rfl ?_
    refine ynil' (kthn (hK6 _ _ ?_))
    clear hK6
    refine cret (kbr (kthr ?_))
    first
      | (exfalso; omega; done)
      | (refine kretv Tryz.results10 rfl (L1 := [drlP l c _, celP c q _, dev q _] ++ R) (by repeat first | exact .refl | exact .nil | exact .z | apply Pk.s | refine Ge.e ?_ | apply Ge.pick | apply Ge.drop) ?_
         rw [hmk]; exact ⟨_, ⟨rfl, rfl⟩, rfl⟩)
   ·(try simp only [sH] at h73)
    have hmk : L.mark D i = L.set D (putR L.bits (i / 4)) := by unfold DrlM.mark; rw [if_neg (by rw [hin]; decide), if_neg (by rw [h73]; decide)]
    unfold drlP
    refine cskip' (kbn (kthn (hK2 _ _ ?_)))
    clear hK2
    refine cseq ?_; intro K7 hK7
    refine creg ?_
    refine y (ev_move rfl) rfl ?_
    refine y (ev_nil rfl) rfl ?_
    refine y (ev_fieldAddr 2 rfl Tryz.underlying79 rfl Tryz.sizeOf54) rfl ?_
    refine y (ev_loadN (u := [i64 (regs L.n), u64 L.bits]) rfl Tryz.isAgg54 Tryz.sizeOf54 (by repeat first | exact .z | apply In.s) rfl rfl) rfl ?_
    refine y (ev_move rfl) rfl ?_
    refine y (ev_quo rfl rfl (by decide)) rfl ?_
    rw [Int.tdiv_eq_ediv_of_nonneg hi0, wr (by omega) (by omega)]
    refine ycall (xPut ?xn81 ?xb81) rfl Tryz.call40 (by repeat first | exact .nil | exact .z | apply Pk.s | apply Tk.cons) rfl ?_
    case xn81 => omega
    case xb81 => exact hL.bits
    rintro v L' ⟨rfl, rfl⟩
    rw [if_pos (inR_reg hin)]
    refine y (ev_move rfl) rfl ?_
    refine y (ev_extract rfl rfl) rfl ?_
    refine y (ev_extract rfl rfl) rfl ?_
    refine ya (ac_alloc Tryz.zeroValue54 rfl) rfl ?_
    rintro v L' ⟨b5, rfl, rfl⟩
    refine ya0 (ac_storeAll rfl rfl (u64_one _ _) Tryz.sizeOf54 (by repeat first | exact .z | apply Rp.s) (by rfl) (by rfl)) ?_
    rintro v L' ⟨rfl, rfl⟩
    refine y (ev_assign rfl) rfl ?_
    refine ynil' (kthn (hK7 _ _ ?_))
    clear hK7
    refine cseq ?_; intro K8 hK8
    refine creg ?_
    refine y (ev_move rfl) rfl ?_
    refine y (ev_loadN (u := [i64 (regs L.n), u64 (putR L.bits (i / 4))]) rfl Tryz.isAgg54 Tryz.sizeOf54 (by repeat first | exact .z | apply In.s) rfl rfl) rfl ?_
    refine ycall (dSet (L := L) (n := regs L.n) (b := putR L.bits (i / 4)) hL rfl (putR_lt hL.bits (inR_reg hin))) rfl Tryz.call41 (by repeat first | exact .nil | exact .z | apply Pk.s | apply Tk.cons) rfl ?_
    rintro v L' ⟨rfl, rfl⟩
    refine y (ev_assign rfl) rfl ?_
    refine ynil' (kthn (hK8 _ _ ?_))
    clear hK8
    refine cret ?_
    first
      | (exfalso; omega; done)
      | (refine kretv Tryz.results10 rfl (L1 := [drlP l c _, celP c q _, dev q _] ++ R) (by repeat first | exact .refl | exact .nil | exact .z | apply Pk.s | refine Ge.e ?_ | apply Ge.pick | apply Ge.drop) ?_
         rw [hmk]; exact ⟨_, ⟨rfl, rfl⟩, rfl⟩)
theorem dClear [Env] {R : List Seg} {l c : Nat} {q : Q3} {L : DrlM} {D : Dev} (hL : L.ok D) : Con Tryz.prog 12 [ptr l] [drlP l c L, celP c q L.c, dev q D] R (Is (i64 (L.clear D).1) [drlP l c (L.clear D).2.1, celP c q (L.clear D).2.1.c, dev q (L.clear D).2.2]) := by
  have hreg := regs_le hL.n
  have hcz := count_zero hL.bits
  refine con_enter Tryz.func12 Tryz.ntmps12 rfl rfl ?_
  unfold drlP
  refine cseq ?_; intro K1 hK1
  refine creg ?_
  refine y (ev_assign rfl) rfl ?_
  refine ynil' (kthn (hK1 _ _ ?_))
  clear hK1
  refine cseq ?_; intro K2 hK2
  refine cseq ?_; intro K3 hK3
  refine creg ?_
  refine y (ev_move rfl) rfl ?_
  refine y (ev_nil rfl) rfl ?_
  refine y (ev_fieldAddr 2 rfl Tryz.underlying79 rfl Tryz.sizeOf54) rfl ?_
  refine y (ev_loadN (u := [i64 (regs L.n), u64 L.bits]) rfl Tryz.isAgg54 Tryz.sizeOf54 (by repeat first | exact .z | apply In.s) rfl rfl) rfl ?_
  refine ycall (xCount ?xn97 ?xb97) rfl Tryz.call44 (by repeat first | exact .nil | exact .z | apply Pk.s | apply Tk.cons) rfl ?_
  case xn97 => omega
  case xb97 => exact hL.bits
  rintro v L' ⟨rfl, rfl⟩
  refine y (ev_eql rfl rfl) rfl ?_
  refine ynil' (kthn (hK3 _ _ ?_))
  clear hK3
  refine ccond rfl (fun h99 => ?_) (fun h99 => ?_)
  ·(try simp only [sH] at h99)
   have hcl : L.clear D = (0, L, D) := by unfold DrlM.clear; rw [if_pos (hcz.1 (by omega))]
   refine cseq ?_; intro K4 hK4
   refine creg ?_
   refine y (ev_assign rfl) rfl ?_
   refine ynil' (kthn (hK4 _ _ ?_))
   clear hK4
   refine cret (kthr ?_)
   first
     | (exfalso; omega; done)
     | (refine kretv Tryz.results12 rfl (L1 := [drlP l c _, celP c q _, dev q _] ++ R) (by repeat first | exact .refl | exact .nil | exact .z | apply Pk.s | refine Ge.e ?_ | apply Ge.pick | apply Ge.drop) ?_
        rw [hcl]; exact ⟨_, ⟨rfl, rfl⟩, rfl⟩)
  ·(try simp only [sH] at h99)
   have hcl : L.clear D = L.set D 0 := by unfold DrlM.clear; rw [if_neg (fun e => by have := hcz.2 e; omega)]
   refine cskip' (kthn (hK2 _ _ ?_))
   clear hK2
   refine cseq ?_; intro K5 hK5
   refine creg ?_
   refine y (ev_move rfl) rfl ?_
   refine y (ev_move rfl) rfl ?_
   refine y (ev_nil rfl) rfl ?_
   refine y (ev_fieldAddr 2 rfl Tryz.underlying79 rfl Tryz.sizeOf54) rfl ?_
   refine y (ev_loadN (u := [i64 (regs L.n), u64 L.bits]) rfl Tryz.isAgg54 Tryz.sizeOf54 (by repeat first | exact .z | apply In.s) rfl rfl) rfl ?_
   refine ycall (xLen) rfl Tryz.call31 (by repeat first | exact .nil | exact .z | apply Pk.s | apply Tk.cons) rfl ?_
   rintro v L' ⟨rfl, rfl⟩
   refine ycall (xNew (n := regs L.n) ?xn107) rfl Tryz.call33 (by repeat first | exact .nil | exact .z | apply Pk.s | apply Tk.cons) rfl ?_
   case xn107 => omega
   rintro v L' ⟨rfl, rfl⟩
   refine ycall (dSet (L := L) (n := regs L.n) (b := 0) hL rfl (Nat.two_pow_pos _)) rfl Tryz.call41 (by repeat first | exact .nil | exact .z | apply Pk.s | apply Tk.cons) rfl ?_
   rintro v L' ⟨rfl, rfl⟩
   refine y (ev_assign rfl) rfl ?_
   refine ynil' (kthn (hK5 _ _ ?_))
   clear hK5
   refine cret ?_
   first
     | (exfalso; omega; done)
     | (refine kretv Tryz.results12 rfl (L1 := [drlP l c _, celP c q _, dev q _] ++ R) (by repeat first | exact .refl | exact .nil | exact .z | apply Pk.s | refine Ge.e ?_ | apply Ge.pick | apply Ge.drop) ?_
        rw [hcl]; exact ⟨_, ⟨rfl, rfl⟩, rfl⟩)
theorem dBlocks [Env] {R : List Seg} {l c : Nat} {L : DrlM} (hn : 1 ≤ L.n ∧ L.n ≤ 32) (hb : L.bits < 2 ^ regs L.n) : Con Tryz.prog 22 [ptr l] [drlP l c L] R (KSv 3 L.blks.length 1 (intsV L.blks) [drlP l c L]) := by
  refine con_enter Tryz.func22 Tryz.ntmps22 rfl rfl ?_
  refine cseq ?_; intro K1 hK1
  refine creg ?_
  refine y (ev_assign rfl) rfl ?_
  refine ynil' (kthn (hK1 _ _ ?_))
  clear hK1
  refine cseq ?_; intro K2 hK2
  refine creg ?_
  refine y (ev_assign rfl) rfl ?_
  refine ynil' (kthn (hK2 _ _ ?_))
  clear hK2
  refine cseq ?_; intro K3 hK3
  refine cseq ?_; intro K4 hK4
  refine creg ?_
  unfold drlP
  refine y (ev_move rfl) rfl ?_
  refine y (ev_nil rfl) rfl ?_
  refine y (ev_fieldAddr 1 rfl Tryz.underlying79 rfl Tryz.sizeOf3) rfl ?_
  refine y (ev_load rfl Tryz.isAgg3 (by repeat first | exact .z | apply In.s) rfl) rfl ?_
  refine y (ev_move rfl) rfl ?_
  refine yreP (L' := [drlP l c L, svSeg none 3 (intsV (blksTo L 0))] ++ R) (by simp [svSeg, drlP]) ?_
  refine ynil' (kthn (hK4 _ _ ?_))
  clear hK4
  have hJ1 : ∀ x : Nat × Sv, ((x.1 ≤ L.n ∧ svOk x.2 (blksTo L x.1).length 1 (intsV (blksTo L x.1))) ∧ (x.1 = L.n)) → Sk 21 K3 ([(9, i64 x.1), (8, i64 L.n), (3, svVal x.2 (blksTo L x.1).length), (0, ptr l)]) ([drlP l c L, svSeg x.2 3 (intsV (blksTo L x.1))] ++ R) := by
   rintro ⟨k, s⟩ ⟨hI1, hX1⟩
   refine hK3 _ _ ?_
   obtain ⟨hk, ok⟩ := hI1; dsimp only at hk ok ⊢; have hal := blksTo_le L k
   dsimp only at hX1; subst hX1
   refine cseq ?_; intro K5 hK5
   refine creg ?_
   refine y (ev_move rfl) rfl ?_
   refine y (ev_assign rfl) rfl ?_
   refine ynil' (kthn (hK5 _ _ ?_))
   clear hK5
   refine cret ?_
   first
     | (exfalso; omega; done)
     | (refine kretv Tryz.results22 rfl (L1 := [svSeg s 3 (intsV (blksTo L _)), drlP l c L] ++ R) (by repeat first | exact .refl | exact .nil | exact .z | apply Pk.s | refine Ge.e ?_ | apply Ge.pick | apply Ge.drop) ?_
        exact ⟨_, ⟨s, rfl, ok, rfl⟩, rfl⟩)
  clear hK3
  refine cblock ?_
  refine cloop (A := Nat × Sv) (fun x => [(9, i64 x.1), (8, i64 L.n), (3, svVal x.2 (blksTo L x.1).length), (0, ptr l)]) (fun x => [drlP l c L, svSeg x.2 3 (intsV (blksTo L x.1))] ++ R) (fun x => x.1 ≤ L.n ∧ svOk x.2 (blksTo L x.1).length 1 (intsV (blksTo L x.1))) (fun x => L.n - x.1) ((0, none)) ?_ (by repeat first | exact sub_nil | refine sub_cons rfl ?_ | refine sub_cons' rfl (by simp) ?_) (by repeat first | exact .refl | exact .nil | exact .z | apply Pk.s | refine Ge.e ?_ | apply Ge.pick | apply Ge.drop) ?_
  · exact ⟨Nat.zero_le _, rfl, rfl⟩
  rintro ⟨k, s⟩ hI1 KL1 hL1
  have hI1o := hI1
  obtain ⟨hk, ok⟩ := hI1; dsimp only at hk ok ⊢; have hal := blksTo_le L k
  refine cseq ?_; intro K6 hK6
  refine creg ?_
  refine y (ev_lss rfl rfl) rfl ?_
  refine ynil' (kthn (hK6 _ _ ?_))
  clear hK6
  refine cseq ?_; intro K7 hK7
  refine ccond rfl (fun h120 => ?_) (fun h120 => ?_)
  ·(try simp only [sH] at h120)
   refine cskip' (kthn (hK7 _ _ ?_))
   clear hK7
   refine cseq ?_; intro K8 hK8
   have hJr7 : ∀ x : Sv, (svOk x (blksTo L (k + 1)).length 1 (intsV (blksTo L (k + 1)))) → Sk 21 K8 ([(9, i64 k), (8, i64 L.n), (3, svVal x (blksTo L (k + 1)).length), (0, ptr l)]) ([drlP l c L, svSeg x 3 (intsV (blksTo L (k + 1)))] ++ R) := by
    rintro s2 hIr7
    refine hK8 _ _ ?_
    have hk7 : k < L.n := by omega
    refine creg ?_
    refine y (ev_add rfl rfl) rfl ?_
    rw [show IntKind.i64.wrap ((k:Int) + 1) = ((k+1 : Nat) : Int) by rw [wr (by omega) (by omega)]; rfl]
    refine y (ev_move rfl) rfl ?_
    refine ynil' (kthn ?_)
    exact hL1 ((k + 1, s2)) (⟨by dsimp only; omega, hIr7⟩) (by dsimp only; omega) _ _ (by repeat first | exact sub_nil | refine sub_cons rfl ?_ | refine sub_cons' rfl (by simp) ?_) (by repeat first | exact .refl | exact .nil | exact .z | apply Pk.s | refine Ge.e ?_ | apply Ge.pick | apply Ge.drop)
   clear hK8
   refine cblock ?_
   refine cseq ?_; intro K9 hK9
   refine creg ?_
   refine y (ev_move rfl) rfl ?_
   refine y (ev_assign rfl) rfl ?_
   refine ynil' (kthn (hK9 _ _ ?_))
   clear hK9
   refine cseq ?_; intro K10 hK10
   refine creg ?_
   refine y (ev_move rfl) rfl ?_
   refine y (ev_move rfl) rfl ?_
   refine ycall (dHas ?dn127 ?db127 ?di127 ?dj127) rfl Tryz.call24 (by repeat first | exact .nil | exact .z | apply Pk.s | apply Tk.cons) rfl ?_
   case dn127 => exact hn
   case db127 => exact hb
   case di127 => omega
   case dj127 => omega
   rintro v L' ⟨rfl, rfl⟩
   refine ynil' (kthn (hK10 _ _ ?_))
   clear hK10
   refine ccond rfl (fun h128 => ?_) (fun h128 => ?_)
   ·(try simp only [sH] at h128)
    have hsu : blksTo L (k + 1) = blksTo L k ++ [(k : Int)] := by rw [blksTo_succ, if_pos h128]
    refine creg ?_
    refine y (ev_move rfl) rfl ?_
    refine y (ev_move rfl) rfl ?_
    refine ya (ac_bsliceR rfl Tryz.underlying49 Tryz.sizeOf3 Tryz.zeroValue3 rfl rfl rfl rfl ⟨⟨_, _, rfl, (by first | rfl | simp), (by first | decide | simp)⟩, trivial⟩ (by dsimp [fillL, splice, vcells, reps] <;> rfl)) rfl ?_
    rintro v L' ⟨b17, rfl, rfl⟩
    refine ya (ac_append (s := s) (xs := intsV (blksTo L k)) (m := (blksTo L k).length) (k := 1) (us := [i64 k]) (size := 1) rfl rfl (by repeat first | exact .z | apply Pk.s) Tryz.underlying49 Tryz.underlying49 (by intro q hq; cases hq) Tryz.typeInfo3 rfl rfl rfl ?ok132 ?src132 ?one132 ?big132) rfl ?_
    case ok132 => exact ok
    case src132 => exact src_at (by repeat first | exact .z | apply In.s) rfl rfl
    case one132 => intro u hu; simp at hu; subst hu; rfl
    case big132 => show (_ + _) * 9 ≤ _; omega
    rintro v L' ⟨s18, rfl, ok18, rfl⟩
    rw [show intsV (blksTo L k) ++ [i64 (k : Int)] = intsV (blksTo L (k + 1)) by rw [hsu]; simp [intsV], show (blksTo L k).length + 1 = (blksTo L (k + 1)).length by rw [hsu]; simp] at ok18 ⊢
    refine y (ev_assign rfl) rfl ?_
    refine ynil' (kbn (kthn ?_))
    exact ksub (by repeat first | exact sub_nil | refine sub_cons rfl ?_ | refine sub_cons' rfl (by simp) ?_) (by repeat first | exact .refl | exact .nil | exact .z | apply Pk.s | refine Ge.e ?_ | apply Ge.pick | apply Ge.drop) (hJr7 _ (by assumption))
   ·(try simp only [sH] at h128)
    have hsu : blksTo L (k + 1) = blksTo L k := by rw [blksTo_succ, if_neg (by rw [h128]; decide)]
    rw [← hsu] at ok ⊢
    refine cskip' (kbn (kthn ?_))
    exact ksub (by repeat first | exact sub_nil | refine sub_cons rfl ?_ | refine sub_cons' rfl (by simp) ?_) (by repeat first | exact .refl | exact .nil | exact .z | apply Pk.s | refine Ge.e ?_ | apply Ge.pick | apply Ge.drop) (hJr7 _ (by assumption))
  ·(try simp only [sH] at h120)
   refine cexit (kthx (kthx (kbx (kthn ?_))))
   exact ksub (by repeat first | exact sub_nil | refine sub_cons rfl ?_ | refine sub_cons' rfl (by simp) ?_) (by repeat first | exact .refl | exact .nil | exact .z | apply Pk.s | refine Ge.e ?_ | apply Ge.pick | apply Ge.drop) (hJ1 ⟨k, s⟩ ⟨hI1o, by first | trivial | omega⟩)
def KDOpen (D : Dev) (a b nb : Int) (q : Q3) (u : Value) (L' : List Seg) : Prop :=
  (drlE D a b nb ≠ 0 ∧ u = .tuple #[nilP, i64 (drlE D a b nb)] ∧ L' = [dev q D]) ∨ (drlE D a b nb = 0 ∧ ∃ l c, u = .tuple #[ptr l, i64 0] ∧ L' = [drlP l c (drlO D a b nb.toNat), celP c q (openC D a b), dev q D])
theorem dOpen [Env] {R : List Seg} {q : Q3} {D : Dev} {a b nb : Int} (hD : D.ok) : Con Tryz.prog 7 [dp q, i64 a, i64 b, i64 nb] [dev q D] R (KDOpen D a b nb q) := by
  refine con_enter Tryz.func7 Tryz.ntmps7 rfl rfl ?_
  refine cseq ?_; intro K1 hK1
  refine creg ?_
  refine y (ev_assign rfl) rfl ?_
  refine y (ev_assign rfl) rfl ?_
  refine ynil' (kthn (hK1 _ _ ?_))
  clear hK1
  refine cseq ?_; intro K2 hK2
  refine cseq ?_; intro K3 hK3
  refine creg ?_
  refine y (ev_move rfl) rfl ?_
  refine y (ev_lss rfl rfl) rfl ?_
  refine y (ev_move rfl) rfl ?_
  refine ysplit 17 rfl (fun h139 => ?_) (fun h139 => ?_)
  ·(try simp only [sH] at h139)
   refine yg0 rfl rfl rfl rfl ?_
   refine yg0 rfl rfl rfl rfl ?_
   refine y (ev_pick1 rfl rfl) rfl ?_
   refine ynil' (kthn (hK3 _ _ ?_))
   clear hK3
   refine ccond1 rfl ?_
   refine cseq ?_; intro K4 hK4
   refine creg ?_
   have hwe : drlE D a b nb = 1 := by unfold drlE; rw [if_pos (by omega)]
   refine y (ev_assign rfl) rfl ?_
   refine y (ev_assign rfl) rfl ?_
   refine ynil' (kthn (hK4 _ _ ?_))
   clear hK4
   refine cret (kthr ?_)
   first
     | (exfalso; omega; done)
     | (refine kretv2 Tryz.results7 rfl rfl (L1 := [dev q D] ++ R) (by repeat first | exact .refl | exact .nil | exact .z | apply Pk.s | refine Ge.e ?_ | apply Ge.pick | apply Ge.drop) ?_
        exact ⟨_, .inl ⟨by rw [hwe]; first | decide | assumption, by rw [hwe], rfl⟩, rfl⟩)
     | (refine kretv2 Tryz.results7 rfl rfl (L1 := [sc b39 _ 79, celP c21 q (openC D a b), dev q D] ++ R) (by repeat first | exact .refl | exact .nil | exact .z | apply Pk.s | refine Ge.e ?_ | apply Ge.pick | apply Ge.drop) ?_
        (try rw [if_neg (by omega)] at hro); exact ⟨_, .inr ⟨by rw [hwe]; exact he0, b39, c21, rfl, by unfold drlP drlO; rw [Int.toNat_natCast, hro]; try rfl⟩, rfl⟩)
  ·(try simp only [sH] at h139)
   refine yg1 rfl rfl ?_
   refine y (ev_move rfl) rfl ?_
   refine yg1 rfl rfl ?_
   refine y (ev_gtr rfl rfl) rfl ?_
   refine y (ev_pick0 rfl rfl) rfl ?_
   refine ynil' (kthn (hK3 _ _ ?_))
   clear hK3
   refine ccond rfl (fun h146 => ?_) (fun h146 => ?_)
   ·(try simp only [sH] at h146)
    refine cseq ?_; intro K5 hK5
    refine creg ?_
    have hwe : drlE D a b nb = 1 := by unfold drlE; rw [if_pos (by omega)]
    refine y (ev_assign rfl) rfl ?_
    refine y (ev_assign rfl) rfl ?_
    refine ynil' (kthn (hK5 _ _ ?_))
    clear hK5
    refine cret (kthr ?_)
    first
      | (exfalso; omega; done)
      | (refine kretv2 Tryz.results7 rfl rfl (L1 := [dev q D] ++ R) (by repeat first | exact .refl | exact .nil | exact .z | apply Pk.s | refine Ge.e ?_ | apply Ge.pick | apply Ge.drop) ?_
         exact ⟨_, .inl ⟨by rw [hwe]; first | decide | assumption, by rw [hwe], rfl⟩, rfl⟩)
      | (refine kretv2 Tryz.results7 rfl rfl (L1 := [sc b39 _ 79, celP c21 q (openC D a b), dev q D] ++ R) (by repeat first | exact .refl | exact .nil | exact .z | apply Pk.s | refine Ge.e ?_ | apply Ge.pick | apply Ge.drop) ?_
         (try rw [if_neg (by omega)] at hro); exact ⟨_, .inr ⟨by rw [hwe]; exact he0, b39, c21, rfl, by unfold drlP drlO; rw [Int.toNat_natCast, hro]; try rfl⟩, rfl⟩)
   ·(try simp only [sH] at h146)
    refine cskip' (kthn (hK2 _ _ ?_))
    clear hK2
    refine cseq ?_; intro K6 hK6
    refine creg ?_
    have hwe : drlE D a b nb = openE D a b := by unfold drlE; rw [if_neg (by omega)]
    obtain ⟨n, rfl⟩ : ∃ n : Nat, nb = n := ⟨nb.toNat, by omega⟩
    have hn : 1 ≤ n ∧ n ≤ 32 := by omega
    have hreg := regs_le hn
    refine y (ev_move rfl) rfl ?_
    refine y (ev_move rfl) rfl ?_
    refine y (ev_move rfl) rfl ?_
    refine ycall (cOpen hD) rfl Tryz.call32 (by repeat first | exact .nil | exact .z | apply Pk.s | apply Tk.cons) rfl ?_
    rintro v L' hop
    rcases hop with ⟨he0, rfl, rfl⟩ | ⟨he0, c21, rfl, rfl⟩
    ·skip
     refine y (ev_move rfl) rfl ?_
     refine y (ev_extract rfl rfl) rfl ?_
     refine y (ev_extract rfl rfl) rfl ?_
     refine y (ev_assign rfl) rfl ?_
     refine y (ev_assign rfl) rfl ?_
     refine ynil' (kthn (hK6 _ _ ?_))
     clear hK6
     refine cseq ?_; intro K7 hK7
     refine cseq ?_; intro K8 hK8
     refine creg ?_
     refine y (ev_move rfl) rfl ?_
     refine y (ev_neq rfl rfl) rfl ?_
     try rw [show (!decide (openE D a b = 0)) = true by simp [he0]]
     refine ynil' (kthn (hK8 _ _ ?_))
     clear hK8
     refine ccond1 rfl ?_
     refine cseq ?_; intro K9 hK9
     refine creg ?_
     refine y (ev_move rfl) rfl ?_
     refine y (ev_assign rfl) rfl ?_
     refine y (ev_assign rfl) rfl ?_
     refine ynil' (kthn (hK9 _ _ ?_))
     clear hK9
     refine cret (kthr ?_)
     first
       | (exfalso; omega; done)
       | (refine kretv2 Tryz.results7 rfl rfl (L1 := [dev q D] ++ R) (by repeat first | exact .refl | exact .nil | exact .z | apply Pk.s | refine Ge.e ?_ | apply Ge.pick | apply Ge.drop) ?_
          exact ⟨_, .inl ⟨by rw [hwe]; first | decide | assumption, by rw [hwe], rfl⟩, rfl⟩)
       | (refine kretv2 Tryz.results7 rfl rfl (L1 := [sc b39 _ 79, celP c21 q (openC D a b), dev q D] ++ R) (by repeat first | exact .refl | exact .nil | exact .z | apply Pk.s | refine Ge.e ?_ | apply Ge.pick | apply Ge.drop) ?_
          (try rw [if_neg (by omega)] at hro); exact ⟨_, .inr ⟨by rw [hwe]; exact he0, b39, c21, rfl, by unfold drlP drlO; rw [Int.toNat_natCast, hro]; try rfl⟩, rfl⟩)
    ·skip
     refine y (ev_move rfl) rfl ?_
     refine y (ev_extract rfl rfl) rfl ?_
     refine y (ev_extract rfl rfl) rfl ?_
     refine y (ev_assign rfl) rfl ?_
     refine y (ev_assign rfl) rfl ?_
     refine ynil' (kthn (hK6 _ _ ?_))
     clear hK6
     refine cseq ?_; intro K10 hK10
     refine cseq ?_; intro K11 hK11
     refine creg ?_
     refine y (ev_move rfl) rfl ?_
     refine y (ev_neq rfl rfl) rfl ?_
     try rw [show (!decide (openE D a b = 0)) = true by simp [he0]]
     refine ynil' (kthn (hK11 _ _ ?_))
     clear hK11
     refine ccond0 rfl ?_
     refine cskip' (kthn (hK10 _ _ ?_))
     clear hK10
     refine cseq ?_; intro K12 hK12
     refine creg ?_
     have hcl := (openC_ok he0).1.text
     refine y (ev_move rfl) rfl ?_
     refine y (ev_move rfl) rfl ?_
     refine y (ev_move rfl) rfl ?_
     refine y (ev_add rfl rfl) rfl ?_
     rw [wr (by omega) (by omega)]
     refine y (ev_sub rfl rfl) rfl ?_
     rw [wr (by omega) (by omega)]
     refine y (ev_quo rfl rfl (by decide)) rfl ?_
     rw [Int.tdiv_eq_ediv_of_nonneg (by omega), wr (by omega) (by omega), show ((n : Int) + 4 - 1) / 4 = ((regs n : Nat) : Int) by unfold regs; omega]
     refine ycall (xNew (n := regs n) ?xn176) rfl Tryz.call33 (by repeat first | exact .nil | exact .z | apply Pk.s | apply Tk.cons) rfl ?_
     case xn176 => omega
     rintro v L' ⟨rfl, rfl⟩
     refine y (ev_build (vs := [ptr c21, i64 n, i64 (regs n), u64 0]) (zs := _) rfl Tryz.underlying79 Tryz.zeroValue79 rfl (.cons Tryz.sizeOf74 (.cons Tryz.sizeOf3 (.cons Tryz.sizeOf54 .nil))) ⟨⟨_, _, rfl, (by first | rfl | simp), (by first | decide | simp)⟩, ⟨⟨_, _, rfl, (by first | rfl | simp), (by first | decide | simp)⟩, ⟨⟨_, _, rfl, (by first | rfl | simp), (by first | decide | simp)⟩, trivial⟩⟩⟩ (by dsimp [fillL, splice, vcells] <;> rfl)) rfl ?_
     refine ya (ac_box (vs := [ptr c21, i64 n, i64 (regs n), u64 0]) rfl rfl) rfl ?_
     rintro v L' ⟨b39, rfl, rfl⟩
     refine y (ev_assign rfl) rfl ?_
     refine ynil' (kthn (hK12 _ _ ?_))
     clear hK12
     refine cseq ?_; intro K13 hK13
     refine cseq ?_; intro K14 hK14
     refine creg ?_
     refine y (ev_move rfl) rfl ?_
     refine y (ev_nil rfl) rfl ?_
     refine y (ev_fieldAddr 0 rfl Tryz.underlying79 rfl Tryz.sizeOf74) rfl ?_
     refine y (ev_load rfl Tryz.isAgg74 (by repeat first | exact .z | apply In.s) rfl) rfl ?_
     refine ycall (cGet) rfl Tryz.call35 (by repeat first | exact .nil | exact .z | apply Pk.s | apply Tk.cons) rfl ?_
     rintro v L' ⟨rfl, rfl⟩
     refine ycall (xLoad ?xt185) rfl Tryz.call34 (by repeat first | exact .nil | exact .z | apply Pk.s | apply Tk.cons) rfl ?_
     case xt185 => omega
     rintro v L' ⟨rfl, rfl⟩
     have hlw := loadP_wf (openC D a b).text
     have hro : rowOfT (regs n) (openC D a b).text = if (loadP (openC D a b).text).2.2 = 0 ∧ (loadP (openC D a b).text).1 = regs n then (loadP (openC D a b).text).2.1 else 0 := rfl
     generalize loadP (openC D a b).text = lp at *
     obtain ⟨n2, b2, e2⟩ := lp
     dsimp only at hlw hro ⊢
     refine y (ev_move rfl) rfl ?_
     refine y (ev_extract rfl rfl) rfl ?_
     refine y (ev_extract rfl rfl) rfl ?_
     refine ya (ac_alloc Tryz.zeroValue54 rfl) rfl ?_
     rintro v L' ⟨b13, rfl, rfl⟩
     refine ya0 (ac_storeAll rfl rfl (u64_one _ _) Tryz.sizeOf54 (by repeat first | exact .z | apply Rp.s) (by rfl) (by rfl)) ?_
     rintro v L' ⟨rfl, rfl⟩
     refine y (ev_assign rfl) rfl ?_
     refine ynil' (kthn (hK14 _ _ ?_))
     clear hK14
     refine cseq ?_; intro K15 hK15
     refine cdraw 9 [(0, true), (1, true), (2, true), (3, true), (5, true), (6, true), (7, true), (8, true), (4, false)] (_) Tryz.mixed (by kernel_rfl) .refl ?_
     refine hr rfl (ev_move rfl) rfl ?_
     refine hr rfl (ev_eql rfl rfl) rfl ?_
     refine hr rfl (ev_move rfl) rfl ?_
     refine hsplit 51 rfl (fun h195 => ?_) (fun h195 => ?_)
     ·(try simp only [sH] at h195)
      refine hr1 rfl rfl rfl (ev_loadN (u := [i64 n2, u64 b2]) rfl Tryz.isAgg54 Tryz.sizeOf54 (by repeat first | exact .z | apply In.s) rfl rfl) rfl ?_
      refine hr1 rfl rfl rfl (ev_move rfl) rfl ?_
      refine hr1 rfl rfl rfl (ev_nil rfl) rfl ?_
      refine hr1 rfl rfl rfl (ev_fieldAddr 2 rfl Tryz.underlying79 rfl Tryz.sizeOf54) rfl ?_
      refine hr1 rfl rfl rfl (ev_loadN (u := [i64 (regs n), u64 0]) rfl Tryz.isAgg54 Tryz.sizeOf54 (by repeat first | exact .z | apply In.s) rfl rfl) rfl ?_
      refine hcall1 rfl rfl rfl (xLen) rfl Tryz.call31 (by repeat first | exact .nil | exact .z | apply Pk.s | apply Tk.cons) rfl ?_
      rintro v L' ⟨rfl, rfl⟩; refine ⟨(by repeat first | exact .refl | exact .nil | exact .z | apply Pk.s | refine Ge.e ?_ | apply Ge.pick | apply Ge.drop), ?_⟩
      refine hnil ?_
      refine yg1 rfl rfl ?_
      refine ycall (xLen) rfl Tryz.call31 (by repeat first | exact .nil | exact .z | apply Pk.s | apply Tk.cons) rfl ?_
      rintro v L' ⟨rfl, rfl⟩
      refine yg1 rfl rfl ?_
      refine y (ev_eql rfl rfl) rfl ?_
      refine y (ev_pick1 rfl rfl) rfl ?_
      refine hnoP' (kthn (hK15 _ _ ?_))
      clear hK15
      refine ccond rfl (fun h205 => ?_) (fun h205 => ?_)
      ·(try simp only [sH] at h205)
       refine creg ?_
       obtain rfl : n2 = regs n := by omega
       rw [if_pos ⟨by omega, rfl⟩] at hro
       refine y (ev_move rfl) rfl ?_
       refine y (ev_loadN (u := [i64 (regs n), u64 b2]) rfl Tryz.isAgg54 Tryz.sizeOf54 (by repeat first | exact .z | apply In.s) rfl rfl) rfl ?_
       refine y (ev_nil rfl) rfl ?_
       refine y (ev_fieldAddr 2 rfl Tryz.underlying79 rfl Tryz.sizeOf54) rfl ?_
       refine ya0 (ac_storeN rfl rfl (u64_one _ _) Tryz.sizeOf54 (by repeat first | exact .z | apply Rp.s) rfl (by simp) rfl) ?_
       rintro v L' ⟨rfl, rfl⟩
       refine ynil' (kthn (hK13 _ _ ?_))
       clear hK13
       refine cseq ?_; intro K16 hK16
       refine creg ?_
       refine y (ev_move rfl) rfl ?_
       refine y (ev_assign rfl) rfl ?_
       refine y (ev_assign rfl) rfl ?_
       refine ynil' (kthn (hK16 _ _ ?_))
       clear hK16
       refine cret ?_
       first
         | (exfalso; omega; done)
         | (refine kretv2 Tryz.results7 rfl rfl (L1 := [dev q D] ++ R) (by repeat first | exact .refl | exact .nil | exact .z | apply Pk.s | refine Ge.e ?_ | apply Ge.pick | apply Ge.drop) ?_
            exact ⟨_, .inl ⟨by rw [hwe]; first | decide | assumption, by rw [hwe], rfl⟩, rfl⟩)
         | (refine kretv2 Tryz.results7 rfl rfl (L1 := [sc b39 _ 79, celP c21 q (openC D a b), dev q D] ++ R) (by repeat first | exact .refl | exact .nil | exact .z | apply Pk.s | refine Ge.e ?_ | apply Ge.pick | apply Ge.drop) ?_
            (try rw [if_neg (by omega)] at hro); exact ⟨_, .inr ⟨by rw [hwe]; exact he0, b39, c21, rfl, by unfold drlP drlO; rw [Int.toNat_natCast, hro]; try rfl⟩, rfl⟩)
      ·(try simp only [sH] at h205)
       refine cskip' (kthn (hK13 _ _ ?_))
       clear hK13
       refine cseq ?_; intro K17 hK17
       refine creg ?_
       refine y (ev_move rfl) rfl ?_
       refine y (ev_assign rfl) rfl ?_
       refine y (ev_assign rfl) rfl ?_
       refine ynil' (kthn (hK17 _ _ ?_))
       clear hK17
       refine cret ?_
       first
         | (exfalso; omega; done)
         | (refine kretv2 Tryz.results7 rfl rfl (L1 := [dev q D] ++ R) (by repeat first | exact .refl | exact .nil | exact .z | apply Pk.s | refine Ge.e ?_ | apply Ge.pick | apply Ge.drop) ?_
            exact ⟨_, .inl ⟨by rw [hwe]; first | decide | assumption, by rw [hwe], rfl⟩, rfl⟩)
         | (refine kretv2 Tryz.results7 rfl rfl (L1 := [sc b39 _ 79, celP c21 q (openC D a b), dev q D] ++ R) (by repeat first | exact .refl | exact .nil | exact .z | apply Pk.s | refine Ge.e ?_ | apply Ge.pick | apply Ge.drop) ?_
            (try rw [if_neg (by omega)] at hro); exact ⟨_, .inr ⟨by rw [hwe]; exact he0, b39, c21, rfl, by unfold drlP drlO; rw [Int.toNat_natCast, hro]; try rfl⟩, rfl⟩)
     ·(try simp only [sH] at h195)
      refine hr0 rfl rfl rfl rfl rfl ?_
      refine hr0 rfl rfl rfl rfl rfl ?_
      refine hr0 rfl rfl rfl rfl rfl ?_
      refine hr0 rfl rfl rfl rfl rfl ?_
      refine hr0 rfl rfl rfl rfl rfl ?_
      refine ha0 rfl rfl rfl rfl rfl (by repeat first | exact .refl | exact .nil | exact .z | apply Pk.s | refine Ge.e ?_ | apply Ge.pick | apply Ge.drop) ?_
      refine hnil ?_
      refine yg0 rfl rfl rfl rfl ?_
      refine yg0 rfl rfl rfl rfl ?_
      refine y (ev_pick0 rfl rfl) rfl ?_
      refine hnoP' (kthn (hK15 _ _ ?_))
      clear hK15
      refine ccond0 rfl ?_
      refine cskip' (kthn (hK13 _ _ ?_))
      clear hK13
      refine cseq ?_; intro K18 hK18
      refine creg ?_
      refine y (ev_move rfl) rfl ?_
      refine y (ev_assign rfl) rfl ?_
      refine y (ev_assign rfl) rfl ?_
      refine ynil' (kthn (hK18 _ _ ?_))
      clear hK18
      refine cret ?_
      first
        | (exfalso; omega; done)
        | (refine kretv2 Tryz.results7 rfl rfl (L1 := [dev q D] ++ R) (by repeat first | exact .refl | exact .nil | exact .z | apply Pk.s | refine Ge.e ?_ | apply Ge.pick | apply Ge.drop) ?_
           exact ⟨_, .inl ⟨by rw [hwe]; first | decide | assumption, by rw [hwe], rfl⟩, rfl⟩)
        | (refine kretv2 Tryz.results7 rfl rfl (L1 := [sc b39 _ 79, celP c21 q (openC D a b), dev q D] ++ R) (by repeat first | exact .refl | exact .nil | exact .z | apply Pk.s | refine Ge.e ?_ | apply Ge.pick | apply Ge.drop) ?_
           (try rw [if_neg (by omega)] at hro); exact ⟨_, .inr ⟨by rw [hwe]; exact he0, b39, c21, rfl, by unfold drlP drlO; rw [Int.toNat_natCast, hro]; try rfl⟩, rfl⟩)
end W
end Go.Proofs
