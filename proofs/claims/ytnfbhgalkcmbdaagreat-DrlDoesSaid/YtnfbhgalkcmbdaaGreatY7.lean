/- A part of the proof: contracts and plain lemmas, each without conditions beyond those that it names. -/
import Derived.Test.YtnfbhgalkcmbdaaGreatY6
import Derived.Test.YtnfbhgalkcmbdaaGreatDrlR
set_option linter.unusedVariables false
set_option linter.unusedSimpArgs false
set_option linter.constructorNameAsVariable false
namespace Go.Proofs
open Go Go.Sl
namespace W
set_option linter.unusedVariables false
def rdrlC (c : Nat) (L : DrlM) : List Value := ptr c :: i64 L.n :: rowC (regs L.n) L.bits
def rdrlP (l c : Nat) (L : DrlM) : Seg := sc l (rdrlC c L) 62
theorem rdrl_row (c : Nat) (L : DrlM) : ((rdrlC c L).drop (0 + 2)).take 65 = rowC (regs L.n) L.bits := by
  show (rowC (regs L.n) L.bits).take 65 = _
  exact List.take_of_length_le (by rw [rowC_len]; decide)
theorem qHas [Env] {R : List Seg} {l c : Nat} {L : DrlM} {i : Int} (hn : 1 ≤ L.n ∧ L.n ≤ 32) (h2 : i ≤ 9223372036854775807) : Con Tryz.prog 25 [ptr l, i64 i] [rdrlP l c L] R (Is (.bool (L.has i)) [rdrlP l c L]) := by
  have hreg := regs_le hn
  unfold rdrlP
  refine con_enter Tryz.func25 Tryz.ntmps25 rfl rfl ?_
  refine cseq ?_; intro K1 hK1
  refine creg ?_
  refine y (ev_assign rfl) rfl ?_
  refine ynil' (kthn (hK1 _ _ ?_))
  clear hK1
  refine cseq ?_; intro K2 hK2
  refine creg ?_
  refine y (ev_move rfl) rfl ?_
  refine y (ev_geq rfl rfl) rfl ?_
  refine y (ev_move rfl) rfl ?_
  refine ysplit 7 rfl (fun h5 => ?_) (fun h5 => ?_)
  ·(try simp only [sH] at h5)
   refine yg1 rfl rfl ?_
   refine y (ev_move rfl) rfl ?_
   refine yg1 rfl rfl ?_
   refine y (ev_move rfl) rfl ?_
   refine yg1 rfl rfl ?_
   refine y (ev_nil rfl) rfl ?_
   refine yg1 rfl rfl ?_
   refine y (ev_fieldAddr 1 rfl Tryz.underlying62 rfl Tryz.sizeOf3) rfl ?_
   refine yg1 rfl rfl ?_
   refine y (ev_load rfl Tryz.isAgg3 (by repeat first | exact .z | apply In.s) rfl) rfl ?_
   refine yg1 rfl rfl ?_
   refine y (ev_lss rfl rfl) rfl ?_
   refine y (ev_pick1 rfl rfl) rfl ?_
   refine y (ev_move rfl) rfl ?_
   refine ysplit 15 rfl (fun h14 => ?_) (fun h14 => ?_)
   ·(try simp only [sH] at h14)
    refine yg1 rfl rfl ?_
    refine y (ev_move rfl) rfl ?_
    refine yg1 rfl rfl ?_
    refine y (ev_nil rfl) rfl ?_
    refine yg1 rfl rfl ?_
    refine y (ev_fieldAddr 2 rfl Tryz.underlying62 rfl Tryz.sizeOf60) rfl ?_
    refine yg1 rfl rfl ?_
    refine y (ev_loadN (u := rowC (regs L.n) L.bits) rfl Tryz.isAgg60 Tryz.sizeOf60 (by repeat first | exact .z | apply In.s) (rdrl_row c L) (rowC_len _ _)) rfl ?_
    refine yg1 rfl rfl ?_
    refine y (ev_move rfl) rfl ?_
    refine yg1 rfl rfl ?_
    refine y (ev_quo rfl rfl (by decide)) rfl ?_
    rw [Int.tdiv_eq_ediv_of_nonneg (by omega), wr (by omega) (by omega)]
    refine yg1 rfl rfl ?_
    refine ycall (r7Has ?xn21) rfl Tryz.call52 (by repeat first | exact .nil | exact .z | apply Pk.s | apply Tk.cons) rfl ?_
    case xn21 => omega
    rintro v L' ⟨rfl, rfl⟩
    refine y (ev_pick1 rfl rfl) rfl ?_
    refine y (ev_assign rfl) rfl ?_
    refine ynil' (kthn (hK2 _ _ ?_))
    clear hK2
    refine cret ?_
    first
      | (exfalso; omega; done)
      | (refine kretv Tryz.results25 rfl (L1 := [sc l (rdrlC c L) 62] ++ R) (by repeat first | exact .refl | exact .nil | exact .z | apply Pk.s | refine Ge.e ?_ | apply Ge.pick | apply Ge.drop) ?_
         exact ⟨_, ⟨congrArg Value.bool (by unfold DrlM.has inR; first | (rw [decide_eq_true (show 0 ≤ i by omega), decide_eq_true (show i < L.n by omega)]; rfl) | (rw [decide_eq_true (show 0 ≤ i by omega), decide_eq_false (show ¬ i < L.n by omega)]; rfl) | (rw [decide_eq_false (show ¬ 0 ≤ i by omega)]; rfl)), rfl⟩, rfl⟩)
   ·(try simp only [sH] at h14)
    refine yg0 rfl rfl rfl rfl ?_
    refine yg0 rfl rfl rfl rfl ?_
    refine yg0 rfl rfl rfl rfl ?_
    refine yg0 rfl rfl rfl rfl ?_
    refine yg0 rfl rfl rfl rfl ?_
    refine yg0 rfl rfl rfl rfl ?_
    refine yg0 rfl rfl rfl rfl ?_
    refine y (ev_pick0 rfl rfl) rfl ?_
    refine y (ev_assign rfl) rfl ?_
    refine ynil' (kthn (hK2 _ _ ?_))
    clear hK2
    refine cret ?_
    first
      | (exfalso; omega; done)
      | (refine kretv Tryz.results25 rfl (L1 := [sc l (rdrlC c L) 62] ++ R) (by repeat first | exact .refl | exact .nil | exact .z | apply Pk.s | refine Ge.e ?_ | apply Ge.pick | apply Ge.drop) ?_
         exact ⟨_, ⟨congrArg Value.bool (by unfold DrlM.has inR; first | (rw [decide_eq_true (show 0 ≤ i by omega), decide_eq_true (show i < L.n by omega)]; rfl) | (rw [decide_eq_true (show 0 ≤ i by omega), decide_eq_false (show ¬ i < L.n by omega)]; rfl) | (rw [decide_eq_false (show ¬ 0 ≤ i by omega)]; rfl)), rfl⟩, rfl⟩)
  ·(try simp only [sH] at h5)
   refine yg0 rfl rfl rfl rfl ?_
   refine yg0 rfl rfl rfl rfl ?_
   refine yg0 rfl rfl rfl rfl ?_
   refine yg0 rfl rfl rfl rfl ?_
   refine yg0 rfl rfl rfl rfl ?_
   refine yg0 rfl rfl rfl rfl ?_
   refine y (ev_pick0 rfl rfl) rfl ?_
   refine y (ev_move rfl) rfl ?_
   refine yg0 rfl rfl rfl rfl ?_
   refine yg0 rfl rfl rfl rfl ?_
   refine yg0 rfl rfl rfl rfl ?_
   refine yg0 rfl rfl rfl rfl ?_
   refine yg0 rfl rfl rfl rfl ?_
   refine yg0 rfl rfl rfl rfl ?_
   refine yg0 rfl rfl rfl rfl ?_
   refine y (ev_pick0 rfl rfl) rfl ?_
   refine y (ev_assign rfl) rfl ?_
   refine ynil' (kthn (hK2 _ _ ?_))
   clear hK2
   refine cret ?_
   first
     | (exfalso; omega; done)
     | (refine kretv Tryz.results25 rfl (L1 := [sc l (rdrlC c L) 62] ++ R) (by repeat first | exact .refl | exact .nil | exact .z | apply Pk.s | refine Ge.e ?_ | apply Ge.pick | apply Ge.drop) ?_
        exact ⟨_, ⟨congrArg Value.bool (by unfold DrlM.has inR; first | (rw [decide_eq_true (show 0 ≤ i by omega), decide_eq_true (show i < L.n by omega)]; rfl) | (rw [decide_eq_true (show 0 ≤ i by omega), decide_eq_false (show ¬ i < L.n by omega)]; rfl) | (rw [decide_eq_false (show ¬ 0 ≤ i by omega)]; rfl)), rfl⟩, rfl⟩)
theorem qSet [Env] {R : List Seg} {l c p la : Nat} {L : DrlM} {E : RDev} {n b : Nat} (hn : n = regs L.n) (hrr : 1 ≤ L.n ∧ L.n ≤ 32) (hb : b < 2 ^ regs L.n) (hg : 0 ≤ L.c.gen ∧ L.c.gen ≤ 4611686018427387904) (hw : L.c.now = -1 ∨ L.c.now = 0 ∨ L.c.now = 1) (hE : E.ok) (hok : ∀ i bs, (E.write i bs).2.ok) :
    Con Tryz.prog 43 [ptr l, rrV n b] [rdrlP l c L, rcelP c p L.c, rdev p la E] R (Is (i64 (L.setR E b).1) [rdrlP l c (L.setR E b).2.1, rcelP c p (L.setR E b).2.1.c, rdev p la (L.setR E b).2.2]) := by
  subst hn
  have hreg := regs_le hrr
  have hset : L.setR E b = ((L.c.putR E (textR (regs L.n) b)).1, { L with c := (L.c.putR E (textR (regs L.n) b)).2.1, bits := if (L.c.putR E (textR (regs L.n) b)).1 = 0 then b else L.bits }, (L.c.putR E (textR (regs L.n) b)).2.2) := rfl
  refine con_enter Tryz.func43 Tryz.ntmps43 rfl rfl ?_
  unfold rdrlP
  refine cseq ?_; intro K1 hK1
  refine creg ?_
  refine ya (ac_box (vs := rowC (regs L.n) b) rfl rfl) rfl ?_
  rintro v L' ⟨b3, rfl, rfl⟩
  refine y (ev_assign rfl) rfl ?_
  refine ynil' (kthn (hK1 _ _ ?_))
  clear hK1
  refine cseq ?_; intro K2 hK2
  refine cdraw 6 [(0, true), (1, true), (2, true), (3, true), (4, true), (5, false)] ([sc l (rdrlC c L) 62, sc b3 (rowC (regs L.n) b) 60] ++ R) Tryz.mixed (by kernel_rfl) (by repeat first | exact .refl | exact .nil | exact .z | apply Pk.s | refine Ge.e ?_ | apply Ge.pick | apply Ge.drop) ?_
  refine hr rfl (ev_move rfl) rfl ?_
  refine hr rfl (ev_nil rfl) rfl ?_
  refine hr rfl (ev_fieldAddr 0 rfl Tryz.underlying62 rfl Tryz.sizeOf57) rfl ?_
  refine hr rfl (ev_load rfl Tryz.isAgg57 (by repeat first | exact .z | apply In.s) rfl) rfl ?_
  refine hr rfl (ev_loadN (u := rowC (regs L.n) b) rfl Tryz.isAgg60 Tryz.sizeOf60 (by repeat first | exact .z | apply In.s) (by rw [List.drop_zero, List.take_of_length_le (by rw [rowC_len]; decide)]) (rowC_len _ _)) rfl ?_
  refine hcall rfl (r7Text ?xn37 ?xb37) rfl Tryz.call28 (by repeat first | exact .nil | exact .z | apply Pk.s | apply Tk.cons) rfl ?_
  case xn37 => omega
  case xb37 => exact hb
  rintro v L' ⟨rfl, rfl⟩; refine ⟨(by repeat first | exact .refl | exact .nil | exact .z | apply Pk.s | refine Ge.e ?_ | apply Ge.pick | apply Ge.drop), ?_⟩
  refine hnil ?_
  refine ycall (rcPut ?pa38 ?pb38 ?pc38 ?pd38) rfl Tryz.call60 (by repeat first | exact .nil | exact .z | apply Pk.s | apply Tk.cons) rfl ?_
  case pa38 => exact hg
  case pb38 => exact hw
  case pc38 => exact hE
  case pd38 => exact hok
  rintro v L' ⟨rfl, rfl⟩
  obtain ⟨w, hw0⟩ : ∃ w, L.c.putR E (textR (regs L.n) b) = w := ⟨_, rfl⟩
  rw [hw0] at hset ⊢
  refine y (ev_assign rfl) rfl ?_
  refine hnoP' (kthn (hK2 _ _ ?_))
  clear hK2
  refine cseq ?_; intro K3 hK3
  refine cseq ?_; intro K4 hK4
  refine creg ?_
  refine y (ev_move rfl) rfl ?_
  refine y (ev_eql rfl rfl) rfl ?_
  refine ynil' (kthn (hK4 _ _ ?_))
  clear hK4
  refine ccond rfl (fun h42 => ?_) (fun h42 => ?_)
  ·(try simp only [sH] at h42)
   rw [if_pos h42] at hset
   refine creg ?_
   refine y (ev_move rfl) rfl ?_
   refine y (ev_loadN (u := rowC (regs L.n) b) rfl Tryz.isAgg60 Tryz.sizeOf60 (by repeat first | exact .z | apply In.s) (by rw [List.drop_zero, List.take_of_length_le (by rw [rowC_len]; decide)]) (rowC_len _ _)) rfl ?_
   refine y (ev_nil rfl) rfl ?_
   refine y (ev_fieldAddr 2 rfl Tryz.underlying62 rfl Tryz.sizeOf60) rfl ?_
   refine ya0 (ac_storeN (vs' := rdrlC c { L with c := w.2.1, bits := b }) rfl rfl (rowC_one _ _) Tryz.sizeOf60 (by repeat first | exact .z | apply Rp.s) (rowC_len _ _) (by simp [rdrlC, rowC_len]) (by simp only [rdrlC, Nat.zero_add, List.take_succ_cons, List.take_zero, List.cons_append, List.nil_append]; rw [List.drop_eq_nil_of_le (by simp [rowC_len])]; simp)) ?_
   rintro v L' ⟨rfl, rfl⟩
   refine ynil' (kthn (hK3 _ _ ?_))
   clear hK3
   refine cseq ?_; intro K5 hK5
   refine creg ?_
   refine y (ev_move rfl) rfl ?_
   refine y (ev_assign rfl) rfl ?_
   refine ynil' (kthn (hK5 _ _ ?_))
   clear hK5
   refine cret ?_
   first
     | (exfalso; omega; done)
     | (refine kretv Tryz.results43 rfl (L1 := [sc l _ 62, rcelP c p _, rdev p la _] ++ R) (by repeat first | exact .refl | exact .nil | exact .z | apply Pk.s | refine Ge.e ?_ | apply Ge.pick | apply Ge.drop) ?_
        rw [hset]; exact ⟨_, ⟨rfl, rfl⟩, rfl⟩)
  ·(try simp only [sH] at h42)
   rw [if_neg h42] at hset
   refine cskip' (kthn (hK3 _ _ ?_))
   clear hK3
   refine cseq ?_; intro K6 hK6
   refine creg ?_
   refine y (ev_move rfl) rfl ?_
   refine y (ev_assign rfl) rfl ?_
   refine ynil' (kthn (hK6 _ _ ?_))
   clear hK6
   refine cret ?_
   first
     | (exfalso; omega; done)
     | (refine kretv Tryz.results43 rfl (L1 := [sc l _ 62, rcelP c p _, rdev p la _] ++ R) (by repeat first | exact .refl | exact .nil | exact .z | apply Pk.s | refine Ge.e ?_ | apply Ge.pick | apply Ge.drop) ?_
        rw [hset]; exact ⟨_, ⟨rfl, rfl⟩, rfl⟩)
structure RLok (L : DrlM) (E : RDev) : Prop where
  n : 1 ≤ L.n ∧ L.n ≤ 32
  bits : L.bits < 2 ^ regs L.n
  gen : 0 ≤ L.c.gen ∧ L.c.gen ≤ 4611686018427387904
  now : L.c.now = -1 ∨ L.c.now = 0 ∨ L.c.now = 1
  d : E.ok
  w : ∀ i bs, (E.write i bs).2.ok
theorem qMark [Env] {R : List Seg} {l c p la : Nat} {L : DrlM} {E : RDev} {i : Int} (hL : RLok L E) (h2 : i ≤ 9223372036854775807) :
    Con Tryz.prog 11 [ptr l, i64 i] [rdrlP l c L, rcelP c p L.c, rdev p la E] R (Is (i64 (L.markR E i).1) [rdrlP l c (L.markR E i).2.1, rcelP c p (L.markR E i).2.1.c, rdev p la (L.markR E i).2.2]) := by
  have hreg := regs_le hL.n
  refine con_enter Tryz.func11 Tryz.ntmps11 rfl rfl ?_
  refine cseq ?_; intro K1 hK1
  refine creg ?_
  refine y (ev_assign rfl) rfl ?_
  refine ynil' (kthn (hK1 _ _ ?_))
  clear hK1
  refine cseq ?_; intro K2 hK2
  refine cseq ?_; intro K3 hK3
  refine creg ?_
  refine y (ev_move rfl) rfl ?_
  refine y (ev_lss rfl rfl) rfl ?_
  refine y (ev_move rfl) rfl ?_
  refine ysplit 9 rfl (fun h56 => ?_) (fun h56 => ?_)
  ·(try simp only [sH] at h56)
   refine yg0 rfl rfl rfl rfl ?_
   refine yg0 rfl rfl rfl rfl ?_
   refine yg0 rfl rfl rfl rfl ?_
   refine yg0 rfl rfl rfl rfl ?_
   refine yg0 rfl rfl rfl rfl ?_
   refine yg0 rfl rfl rfl rfl ?_
   refine y (ev_pick1 rfl rfl) rfl ?_
   refine ynil' (kthn (hK3 _ _ ?_))
   clear hK3
   refine ccond1 rfl ?_
   refine cseq ?_; intro K4 hK4
   refine creg ?_
   have hmk : L.markR E i = (2, L, E) := by unfold DrlM.markR; rw [if_pos (by unfold inR; first | (rw [decide_eq_false (show ¬ 0 ≤ i by omega)]; rfl) | (rw [decide_eq_true (show 0 ≤ i by omega), decide_eq_false (show ¬ i < L.n by omega)]; rfl))]
   refine y (ev_assign rfl) rfl ?_
   refine ynil' (kthn (hK4 _ _ ?_))
   clear hK4
   refine cret (kthr ?_)
   first
     | (exfalso; omega; done)
     | (refine kretv Tryz.results11 rfl (L1 := [rdrlP l c _, rcelP c p _, rdev p la _] ++ R) (by repeat first | exact .refl | exact .nil | exact .z | apply Pk.s | refine Ge.e ?_ | apply Ge.pick | apply Ge.drop) ?_
        rw [hmk]; exact ⟨_, ⟨rfl, rfl⟩, rfl⟩)
  ·(try simp only [sH] at h56)
   refine yg1 rfl rfl ?_
   refine y (ev_move rfl) rfl ?_
   refine yg1 rfl rfl ?_
   refine y (ev_move rfl) rfl ?_
   refine yg1 rfl rfl ?_
   refine y (ev_nil rfl) rfl ?_
   refine yg1 rfl rfl ?_
   refine y (ev_fieldAddr 1 rfl Tryz.underlying62 rfl Tryz.sizeOf3) rfl ?_
   refine yg1 rfl rfl ?_
   refine y (ev_load rfl Tryz.isAgg3 (by repeat first | exact .z | apply In.s) rfl) rfl ?_
   refine yg1 rfl rfl ?_
   refine y (ev_geq rfl rfl) rfl ?_
   refine y (ev_pick0 rfl rfl) rfl ?_
   refine ynil' (kthn (hK3 _ _ ?_))
   clear hK3
   refine ccond rfl (fun h66 => ?_) (fun h66 => ?_)
   ·(try simp only [sH] at h66)
    refine cseq ?_; intro K5 hK5
    refine creg ?_
    have hmk : L.markR E i = (2, L, E) := by unfold DrlM.markR; rw [if_pos (by unfold inR; first | (rw [decide_eq_false (show ¬ 0 ≤ i by omega)]; rfl) | (rw [decide_eq_true (show 0 ≤ i by omega), decide_eq_false (show ¬ i < L.n by omega)]; rfl))]
    refine y (ev_assign rfl) rfl ?_
    refine ynil' (kthn (hK5 _ _ ?_))
    clear hK5
    refine cret (kthr ?_)
    first
      | (exfalso; omega; done)
      | (refine kretv Tryz.results11 rfl (L1 := [rdrlP l c _, rcelP c p _, rdev p la _] ++ R) (by repeat first | exact .refl | exact .nil | exact .z | apply Pk.s | refine Ge.e ?_ | apply Ge.pick | apply Ge.drop) ?_
         rw [hmk]; exact ⟨_, ⟨rfl, rfl⟩, rfl⟩)
   ·(try simp only [sH] at h66)
    have hin : inR L.n i = true := inR_iff.2 ⟨by omega, by omega⟩
    refine cskip' (kthn (hK2 _ _ ?_))
    clear hK2
    refine cseq ?_; intro K6 hK6
    refine cseq ?_; intro K7 hK7
    refine creg ?_
    refine y (ev_move rfl) rfl ?_
    refine y (ev_move rfl) rfl ?_
    refine ycall (qHas ?dn70 ?dj70) rfl Tryz.call25 (by repeat first | exact .nil | exact .z | apply Pk.s | apply Tk.cons) rfl ?_
    case dn70 => exact hL.n
    case dj70 => exact h2
    rintro v L' ⟨rfl, rfl⟩
    refine ynil' (kthn (hK7 _ _ ?_))
    clear hK7
    refine ccond rfl (fun h71 => ?_) (fun h71 => ?_)
    ·(try simp only [sH] at h71)
     have hmk : L.markR E i = (0, L, E) := by unfold DrlM.markR; rw [if_neg (by rw [hin]; decide), if_pos h71]
     refine cseq ?_; intro K8 hK8
     refine creg ?_
     refine y (ev_assign rfl) rfl ?_
     refine ynil' (kthn (hK8 _ _ ?_))
     clear hK8
     refine cret (kthr ?_)
     first
       | (exfalso; omega; done)
       | (refine kretv Tryz.results11 rfl (L1 := [rdrlP l c _, rcelP c p _, rdev p la _] ++ R) (by repeat first | exact .refl | exact .nil | exact .z | apply Pk.s | refine Ge.e ?_ | apply Ge.pick | apply Ge.drop) ?_
          rw [hmk]; exact ⟨_, ⟨rfl, rfl⟩, rfl⟩)
    ·(try simp only [sH] at h71)
     have hmk : L.markR E i = L.setR E (putR L.bits (i / 4)) := by unfold DrlM.markR; rw [if_neg (by rw [hin]; decide), if_neg (by rw [h71]; decide)]
     unfold rdrlP
     refine cskip' (kthn (hK6 _ _ ?_))
     clear hK6
     refine cseq ?_; intro K9 hK9
     refine creg ?_
     refine y (ev_move rfl) rfl ?_
     refine y (ev_nil rfl) rfl ?_
     refine y (ev_fieldAddr 2 rfl Tryz.underlying62 rfl Tryz.sizeOf60) rfl ?_
     refine y (ev_loadN (u := rowC (regs L.n) L.bits) rfl Tryz.isAgg60 Tryz.sizeOf60 (by repeat first | exact .z | apply In.s) (rdrl_row c L) (rowC_len _ _)) rfl ?_
     refine y (ev_move rfl) rfl ?_
     refine y (ev_quo rfl rfl (by decide)) rfl ?_
     rw [Int.tdiv_eq_ediv_of_nonneg (by omega), wr (by omega) (by omega)]
     refine ycall (r7Set (n := regs L.n) (b := L.bits) ?xn79 ?xi79) rfl Tryz.call42 (by repeat first | exact .nil | exact .z | apply Pk.s | apply Tk.cons) rfl ?_
     case xn79 => omega
     case xi79 => exact inR_reg hin
     rintro v L' ⟨rfl, rfl⟩
     refine y (ev_move rfl) rfl ?_
     refine y (ev_extract rfl rfl) rfl ?_
     refine y (ev_extract rfl rfl) rfl ?_
     refine ya (ac_alloc (vs := rowC 0 0) Tryz.zeroValue60 Tryz.zr7) rfl ?_
     rintro v L' ⟨b5, rfl, rfl⟩
     refine ya0 (ac_storeAll rfl rfl (rowC_one _ _) Tryz.sizeOf60 (by repeat first | exact .z | apply Rp.s) (rowC_len _ _) (rowC_len _ _)) ?_
     rintro v L' ⟨rfl, rfl⟩
     refine y (ev_assign rfl) rfl ?_
     refine ynil' (kthn (hK9 _ _ ?_))
     clear hK9
     refine cseq ?_; intro K10 hK10
     refine creg ?_
     refine y (ev_move rfl) rfl ?_
     refine y (ev_loadN (u := rowC (regs L.n) (putR L.bits (i / 4))) rfl Tryz.isAgg60 Tryz.sizeOf60 (by repeat first | exact .z | apply In.s) (by rw [List.drop_zero, List.take_of_length_le (by rw [rowC_len]; decide)]) (rowC_len _ _)) rfl ?_
     refine ycall (qSet (L := L) (n := regs L.n) (b := putR L.bits (i / 4)) rfl hL.n (putR_lt hL.bits (inR_reg hin)) hL.gen hL.now hL.d hL.w) rfl Tryz.call43 (by repeat first | exact .nil | exact .z | apply Pk.s | apply Tk.cons) rfl ?_
     rintro v L' ⟨rfl, rfl⟩
     refine y (ev_assign rfl) rfl ?_
     refine ynil' (kthn (hK10 _ _ ?_))
     clear hK10
     refine cret ?_
     first
       | (exfalso; omega; done)
       | (refine kretv Tryz.results11 rfl (L1 := [rdrlP l c _, rcelP c p _, rdev p la _] ++ R) (by repeat first | exact .refl | exact .nil | exact .z | apply Pk.s | refine Ge.e ?_ | apply Ge.pick | apply Ge.drop) ?_
          rw [hmk]; exact ⟨_, ⟨rfl, rfl⟩, rfl⟩)
theorem qClear [Env] {R : List Seg} {l c p la : Nat} {L : DrlM} {E : RDev} (hL : RLok L E) :
    Con Tryz.prog 13 [ptr l] [rdrlP l c L, rcelP c p L.c, rdev p la E] R (Is (i64 (L.clearR E).1) [rdrlP l c (L.clearR E).2.1, rcelP c p (L.clearR E).2.1.c, rdev p la (L.clearR E).2.2]) := by
  have hreg := regs_le hL.n
  have hcz := count_zero hL.bits
  refine con_enter Tryz.func13 Tryz.ntmps13 rfl rfl ?_
  unfold rdrlP
  refine cseq ?_; intro K1 hK1
  refine creg ?_
  refine y (ev_assign rfl) rfl ?_
  refine ynil' (kthn (hK1 _ _ ?_))
  clear hK1
  refine cseq ?_; intro K2 hK2
  refine cseq ?_; intro K3 hK3
  refine creg ?_
  refine y (ev_move rfl) rfl ?_
  refine y (ev_nil rfl) rfl ?_
  refine y (ev_fieldAddr 2 rfl Tryz.underlying62 rfl Tryz.sizeOf60) rfl ?_
  refine y (ev_loadN (u := rowC (regs L.n) L.bits) rfl Tryz.isAgg60 Tryz.sizeOf60 (by repeat first | exact .z | apply In.s) (rdrl_row c L) (rowC_len _ _)) rfl ?_
  refine ycall (r7All (n := regs L.n) (b := L.bits) ?xn95) rfl Tryz.call45 (by repeat first | exact .nil | exact .z | apply Pk.s | apply Tk.cons) rfl ?_
  case xn95 => omega
  rintro v L' ⟨s7, rfl, ok7, rfl⟩
  refine y (ev_lenSv rfl Tryz.underlying49 ok7) rfl ?_
  refine y (ev_eql rfl rfl) rfl ?_
  refine ynil' (kthn (hK3 _ _ ?_))
  clear hK3
  refine ccond rfl (fun h98 => ?_) (fun h98 => ?_)
  ·(try simp only [sH] at h98)
   have hcl : L.clearR E = (0, L, E) := by unfold DrlM.clearR; rw [if_pos (hcz.1 (by omega))]
   refine cseq ?_; intro K4 hK4
   refine creg ?_
   refine y (ev_assign rfl) rfl ?_
   refine ynil' (kthn (hK4 _ _ ?_))
   clear hK4
   refine cret (kthr ?_)
   first
     | (exfalso; omega; done)
     | (refine kretv Tryz.results13 rfl (L1 := [rdrlP l c _, rcelP c p _, rdev p la _] ++ R) (by repeat first | exact .refl | exact .nil | exact .z | apply Pk.s | refine Ge.e ?_ | apply Ge.pick | apply Ge.drop) ?_
        rw [hcl]; exact ⟨_, ⟨rfl, rfl⟩, rfl⟩)
  ·(try simp only [sH] at h98)
   have hcl : L.clearR E = L.setR E 0 := by unfold DrlM.clearR; rw [if_neg (fun e => by have := hcz.2 e; omega)]
   refine cskip' (kthn (hK2 _ _ ?_))
   clear hK2
   refine cseq ?_; intro K5 hK5
   refine creg ?_
   refine y (ev_move rfl) rfl ?_
   refine y (ev_move rfl) rfl ?_
   refine y (ev_nil rfl) rfl ?_
   refine y (ev_fieldAddr 2 rfl Tryz.underlying62 rfl Tryz.sizeOf60) rfl ?_
   refine y (ev_fieldAddr 0 rfl Tryz.underlying60 rfl Tryz.sizeOf3) rfl ?_
   refine y (ev_load rfl Tryz.isAgg3 (by repeat first | exact .z | apply In.s) rfl) rfl ?_
   refine ycall (r7New (n := regs L.n) ?xn106) rfl Tryz.call37 (by repeat first | exact .nil | exact .z | apply Pk.s | apply Tk.cons) rfl ?_
   case xn106 => omega
   rintro v L' ⟨rfl, rfl⟩
   refine ycall (qSet (L := L) (n := regs L.n) (b := 0) rfl hL.n (Nat.two_pow_pos _) hL.gen hL.now hL.d hL.w) rfl Tryz.call43 (by repeat first | exact .nil | exact .z | apply Pk.s | apply Tk.cons) rfl ?_
   rintro v L' ⟨rfl, rfl⟩
   refine y (ev_assign rfl) rfl ?_
   refine ynil' (kthn (hK5 _ _ ?_))
   clear hK5
   refine cret ?_
   first
     | (exfalso; omega; done)
     | (refine kretv Tryz.results13 rfl (L1 := [rdrlP l c _, rcelP c p _, rdev p la _] ++ R) (by repeat first | exact .refl | exact .nil | exact .z | apply Pk.s | refine Ge.e ?_ | apply Ge.pick | apply Ge.drop) ?_
        rw [hcl]; exact ⟨_, ⟨rfl, rfl⟩, rfl⟩)
theorem qAll [Env] {R : List Seg} {l c : Nat} {L : DrlM} (hn : 1 ≤ L.n ∧ L.n ≤ 32) : Con Tryz.prog 23 [ptr l] [rdrlP l c L] R (KSv 3 L.blks.length 1 (intsV L.blks) [rdrlP l c L]) := by
  refine con_enter Tryz.func23 Tryz.ntmps23 rfl rfl ?_
  refine cseq ?_; intro K1 hK1
  refine creg ?_
  refine y (ev_assign rfl) rfl ?_
  refine ynil' (kthn (hK1 _ _ ?_))
  clear hK1
  refine cseq ?_; intro K2 hK2
  refine creg ?_
  refine ya (ac_bslice0 Tryz.underlying49 Tryz.sizeOf3) rfl ?_
  rintro v L' ⟨b5, rfl, rfl⟩
  refine y (ev_assign rfl) rfl ?_
  refine ynil' (kthn (hK2 _ _ ?_))
  clear hK2
  refine cseq ?_; intro K3 hK3
  refine cseq ?_; intro K4 hK4
  refine creg ?_
  unfold rdrlP
  refine y (ev_assign rfl) rfl ?_
  refine ynil' (kthn (hK4 _ _ ?_))
  clear hK4
  have hJ1 : ∀ x : Nat × Sv, ((x.1 ≤ L.n ∧ svOk x.2 (blksTo L x.1).length 1 (intsV (blksTo L x.1))) ∧ (x.1 = L.n)) → Sk 22 K3 ([(4, i64 x.1), (3, svVal x.2 (blksTo L x.1).length), (0, ptr l)]) ([rdrlP l c L, svSeg x.2 3 (intsV (blksTo L x.1))] ++ R) := by
   rintro ⟨k, s⟩ ⟨hI1, hX1⟩
   refine hK3 _ _ ?_
   obtain ⟨hk, ok⟩ := hI1; dsimp only at hk ok ⊢; have hal := blksTo_le L k
   dsimp only at hX1; subst hX1
   refine cseq ?_; intro K5 hK5
   refine creg ?_
   refine y (ev_move rfl) rfl ?_
   refine y (ev_assign rfl) rfl ?_
   refine ynil' (kthn (hK5 _ _ ?_))
   clear hK5
   refine cret ?_
   first
     | (exfalso; omega; done)
     | (refine kretv Tryz.results23 rfl (L1 := [svSeg s 3 (intsV (blksTo L _)), rdrlP l c L] ++ R) (by repeat first | exact .refl | exact .nil | exact .z | apply Pk.s | refine Ge.e ?_ | apply Ge.pick | apply Ge.drop) ?_
        exact ⟨_, ⟨s, rfl, ok, rfl⟩, rfl⟩)
  clear hK3
  refine cblock ?_
  refine cloop (A := Nat × Sv) (fun x => [(4, i64 x.1), (3, svVal x.2 (blksTo L x.1).length), (0, ptr l)]) (fun x => [rdrlP l c L, svSeg x.2 3 (intsV (blksTo L x.1))] ++ R) (fun x => x.1 ≤ L.n ∧ svOk x.2 (blksTo L x.1).length 1 (intsV (blksTo L x.1))) (fun x => L.n - x.1) ((0, some (b5, 0, []))) ?_ (by repeat first | exact sub_nil | refine sub_cons rfl ?_ | refine sub_cons' rfl (by simp) ?_) (by repeat first | exact .refl | exact .nil | exact .z | apply Pk.s | refine Ge.e ?_ | apply Ge.pick | apply Ge.drop) ?_
  · exact ⟨Nat.zero_le _, Nat.zero_le _, by decide, rfl, rfl⟩
  rintro ⟨k, s⟩ hI1 KL1 hL1
  have hI1o := hI1
  obtain ⟨hk, ok⟩ := hI1; dsimp only at hk ok ⊢; have hal := blksTo_le L k
  refine cseq ?_; intro K6 hK6
  refine cseq ?_; intro K7 hK7
  refine creg ?_
  refine y (ev_move rfl) rfl ?_
  refine y (ev_move rfl) rfl ?_
  refine y (ev_nil rfl) rfl ?_
  refine y (ev_fieldAddr 1 rfl Tryz.underlying62 rfl Tryz.sizeOf3) rfl ?_
  refine y (ev_load rfl Tryz.isAgg3 (by repeat first | exact .z | apply In.s) rfl) rfl ?_
  refine y (ev_lss rfl rfl) rfl ?_
  refine ynil' (kthn (hK7 _ _ ?_))
  clear hK7
  refine ccond rfl (fun h121 => ?_) (fun h121 => ?_)
  ·(try simp only [sH] at h121)
   refine cskip' (kthn (hK6 _ _ ?_))
   clear hK6
   refine cseq ?_; intro K8 hK8
   have hJr4 : ∀ x : Sv, (svOk x (blksTo L (k + 1)).length 1 (intsV (blksTo L (k + 1)))) → Sk 22 K8 ([(4, i64 k), (3, svVal x (blksTo L (k + 1)).length), (0, ptr l)]) ([rdrlP l c L, svSeg x 3 (intsV (blksTo L (k + 1)))] ++ R) := by
    rintro s2 hIr4
    refine hK8 _ _ ?_
    have hk7 : k < L.n := by omega
    refine creg ?_
    refine y (ev_move rfl) rfl ?_
    refine y (ev_add rfl rfl) rfl ?_
    rw [show IntKind.i64.wrap ((k:Int) + 1) = ((k+1 : Nat) : Int) by rw [wr (by omega) (by omega)]; rfl]
    refine y (ev_assign rfl) rfl ?_
    refine ynil' (kthn ?_)
    exact hL1 ((k + 1, s2)) (⟨by dsimp only; omega, hIr4⟩) (by dsimp only; omega) _ _ (by repeat first | exact sub_nil | refine sub_cons rfl ?_ | refine sub_cons' rfl (by simp) ?_) (by repeat first | exact .refl | exact .nil | exact .z | apply Pk.s | refine Ge.e ?_ | apply Ge.pick | apply Ge.drop)
   clear hK8
   refine cblock ?_
   refine cseq ?_; intro K9 hK9
   refine creg ?_
   refine y (ev_move rfl) rfl ?_
   refine y (ev_move rfl) rfl ?_
   refine ycall (qHas ?dn127 ?dj127) rfl Tryz.call25 (by repeat first | exact .nil | exact .z | apply Pk.s | apply Tk.cons) rfl ?_
   case dn127 => exact hn
   case dj127 => omega
   rintro v L' ⟨rfl, rfl⟩
   refine ynil' (kthn (hK9 _ _ ?_))
   clear hK9
   refine ccond rfl (fun h128 => ?_) (fun h128 => ?_)
   ·(try simp only [sH] at h128)
    have hsu : blksTo L (k + 1) = blksTo L k ++ [(k : Int)] := by rw [blksTo_succ, if_pos h128]
    refine creg ?_
    refine y (ev_move rfl) rfl ?_
    refine y (ev_move rfl) rfl ?_
    refine ya (ac_bsliceR rfl Tryz.underlying49 Tryz.sizeOf3 Tryz.zeroValue3 rfl rfl rfl rfl ⟨⟨_, _, rfl, (by first | rfl | simp), (by first | decide | simp)⟩, trivial⟩ (by dsimp [fillL, splice, vcells, reps] <;> rfl)) rfl ?_
    rintro v L' ⟨b19, rfl, rfl⟩
    refine ya (ac_append (s := s) (xs := intsV (blksTo L k)) (m := (blksTo L k).length) (k := 1) (us := [i64 k]) (size := 1) rfl rfl (by repeat first | exact .z | apply Pk.s) Tryz.underlying49 Tryz.underlying49 (by intro q hq; cases hq) Tryz.typeInfo3 rfl rfl rfl ?ok132 ?src132 ?one132 ?big132) rfl ?_
    case ok132 => exact ok
    case src132 => exact src_at (by repeat first | exact .z | apply In.s) rfl rfl
    case one132 => intro u hu; simp at hu; subst hu; rfl
    case big132 => show (_ + _) * 9 ≤ _; omega
    rintro v L' ⟨s20, rfl, ok20, rfl⟩
    rw [show intsV (blksTo L k) ++ [i64 (k : Int)] = intsV (blksTo L (k + 1)) by rw [hsu]; simp [intsV], show (blksTo L k).length + 1 = (blksTo L (k + 1)).length by rw [hsu]; simp] at ok20 ⊢
    refine y (ev_assign rfl) rfl ?_
    refine ynil' (kbn (kthn ?_))
    exact ksub (by repeat first | exact sub_nil | refine sub_cons rfl ?_ | refine sub_cons' rfl (by simp) ?_) (by repeat first | exact .refl | exact .nil | exact .z | apply Pk.s | refine Ge.e ?_ | apply Ge.pick | apply Ge.drop) (hJr4 _ (by assumption))
   ·(try simp only [sH] at h128)
    have hsu : blksTo L (k + 1) = blksTo L k := by rw [blksTo_succ, if_neg (by rw [h128]; decide)]
    rw [← hsu] at ok ⊢
    refine cskip' (kbn (kthn ?_))
    exact ksub (by repeat first | exact sub_nil | refine sub_cons rfl ?_ | refine sub_cons' rfl (by simp) ?_) (by repeat first | exact .refl | exact .nil | exact .z | apply Pk.s | refine Ge.e ?_ | apply Ge.pick | apply Ge.drop) (hJr4 _ (by assumption))
  ·(try simp only [sH] at h121)
   refine cexit (kthx (kthx (kbx (kthn ?_))))
   exact ksub (by repeat first | exact sub_nil | refine sub_cons rfl ?_ | refine sub_cons' rfl (by simp) ?_) (by repeat first | exact .refl | exact .nil | exact .z | apply Pk.s | refine Ge.e ?_ | apply Ge.pick | apply Ge.drop) (hJ1 ⟨k, s⟩ ⟨hI1o, by first | trivial | omega⟩)
end W
end Go.Proofs
