/- A part of the proof: contracts and plain lemmas, each without conditions beyond those that it names. -/
import Derived.Test.YtnfbhgalkcmbdaaGreatY7
set_option linter.unusedVariables false
set_option linter.unusedSimpArgs false
set_option linter.constructorNameAsVariable false
namespace Go.Proofs
open Go Go.Sl
namespace W
set_option linter.unusedVariables false
def KQOpen (E : RDev) (a b nb : Int) (p la : Nat) (u : Value) (L' : List Seg) : Prop :=
  (drlER E a b nb ≠ 0 ∧ u = .tuple #[nilP, i64 (drlER E a b nb)] ∧ L' = [rdev p la E]) ∨ (drlER E a b nb = 0 ∧ ∃ l c, u = .tuple #[ptr l, i64 0] ∧ L' = [rdrlP l c (drlOR E a b nb.toNat), rcelP c p (openCR E a b), rdev p la E])
theorem qOpen [Env] {R : List Seg} {p la : Nat} {E : RDev} {a b nb : Int} (hE : E.ok) (hlen : ∀ i : Int, 0 ≤ i → i < E.l.length → (E.sec i).length = 144) (htx : openER E a b = 0 → (openCR E a b).text.length ≤ 1000) :
    Con Tryz.prog 8 [ptr p, i64 a, i64 b, i64 nb] [rdev p la E] R (KQOpen E a b nb p la) := by
  refine con_enter Tryz.func8 Tryz.ntmps8 rfl rfl ?_
  refine cseq ?_; intro K1 hK1
  refine creg ?_
  refine y (ev_assign rfl) rfl ?_
  refine y (ev_assign rfl) rfl ?_
  refine ynil' (kthn (hK1 _ _ ?_))
  clear hK1
  refine cseq ?_; intro K2 hK2
  refine cseq ?_; intro K3 hK3
  refine creg ?_
  refine y (ev_move rfl) rfl ?_
  refine y (ev_lss rfl rfl) rfl ?_
  refine y (ev_move rfl) rfl ?_
  refine ysplit 17 rfl (fun h6 => ?_) (fun h6 => ?_)
  ·(try simp only [sH] at h6)
   refine yg0 rfl rfl rfl rfl ?_
   refine yg0 rfl rfl rfl rfl ?_
   refine y (ev_pick1 rfl rfl) rfl ?_
   refine ynil' (kthn (hK3 _ _ ?_))
   clear hK3
   refine ccond1 rfl ?_
   refine cseq ?_; intro K4 hK4
   refine creg ?_
   have hwe : drlER E a b nb = 1 := by unfold drlER; rw [if_pos (by omega)]
   refine y (ev_assign rfl) rfl ?_
   refine y (ev_assign rfl) rfl ?_
   refine ynil' (kthn (hK4 _ _ ?_))
   clear hK4
   refine cret (kthr ?_)
   first
     | (exfalso; omega; done)
     | (refine kretv2 Tryz.results8 rfl rfl (L1 := [rdev p la E] ++ R) (by repeat first | exact .refl | exact .nil | exact .z | apply Pk.s | refine Ge.e ?_ | apply Ge.pick | apply Ge.drop) ?_
        exact ⟨_, .inl ⟨by rw [hwe]; first | decide | assumption, by rw [hwe], rfl⟩, rfl⟩)
     | (refine kretv2 Tryz.results8 rfl rfl (L1 := [sc b38 _ 62, rcelP c25 p (openCR E a b), rdev p la E] ++ R) (by repeat first | exact .refl | exact .nil | exact .z | apply Pk.s | refine Ge.e ?_ | apply Ge.pick | apply Ge.drop) ?_
        (try rw [if_neg (by omega)] at hro); exact ⟨_, .inr ⟨by rw [hwe]; exact he0, b38, c25, rfl, by unfold rdrlP drlOR; rw [Int.toNat_natCast, hro]; try rfl⟩, rfl⟩)
  ·(try simp only [sH] at h6)
   refine yg1 rfl rfl ?_
   refine y (ev_move rfl) rfl ?_
   refine yg1 rfl rfl ?_
   refine y (ev_gtr rfl rfl) rfl ?_
   refine y (ev_pick0 rfl rfl) rfl ?_
   refine ynil' (kthn (hK3 _ _ ?_))
   clear hK3
   refine ccond rfl (fun h13 => ?_) (fun h13 => ?_)
   ·(try simp only [sH] at h13)
    refine cseq ?_; intro K5 hK5
    refine creg ?_
    have hwe : drlER E a b nb = 1 := by unfold drlER; rw [if_pos (by omega)]
    refine y (ev_assign rfl) rfl ?_
    refine y (ev_assign rfl) rfl ?_
    refine ynil' (kthn (hK5 _ _ ?_))
    clear hK5
    refine cret (kthr ?_)
    first
      | (exfalso; omega; done)
      | (refine kretv2 Tryz.results8 rfl rfl (L1 := [rdev p la E] ++ R) (by repeat first | exact .refl | exact .nil | exact .z | apply Pk.s | refine Ge.e ?_ | apply Ge.pick | apply Ge.drop) ?_
         exact ⟨_, .inl ⟨by rw [hwe]; first | decide | assumption, by rw [hwe], rfl⟩, rfl⟩)
      | (refine kretv2 Tryz.results8 rfl rfl (L1 := [sc b38 _ 62, rcelP c25 p (openCR E a b), rdev p la E] ++ R) (by repeat first | exact .refl | exact .nil | exact .z | apply Pk.s | refine Ge.e ?_ | apply Ge.pick | apply Ge.drop) ?_
         (try rw [if_neg (by omega)] at hro); exact ⟨_, .inr ⟨by rw [hwe]; exact he0, b38, c25, rfl, by unfold rdrlP drlOR; rw [Int.toNat_natCast, hro]; try rfl⟩, rfl⟩)
   ·(try simp only [sH] at h13)
    refine cskip' (kthn (hK2 _ _ ?_))
    clear hK2
    refine cseq ?_; intro K6 hK6
    refine creg ?_
    have hwe : drlER E a b nb = openER E a b := by unfold drlER; rw [if_neg (by omega)]
    obtain ⟨n, rfl⟩ : ∃ n : Nat, nb = n := ⟨nb.toNat, by omega⟩
    have hn : 1 ≤ n ∧ n ≤ 32 := by omega
    have hreg := regs_le hn
    refine y (ev_move rfl) rfl ?_
    refine y (ev_move rfl) rfl ?_
    refine y (ev_move rfl) rfl ?_
    refine ycall (rcOpen hE hlen) rfl Tryz.call36 (by repeat first | exact .nil | exact .z | apply Pk.s | apply Tk.cons) rfl ?_
    rintro v L' hop
    rcases hop with ⟨he0, rfl, rfl⟩ | ⟨he0, c25, rfl, rfl⟩
    ·skip
     refine y (ev_move rfl) rfl ?_
     refine y (ev_extract rfl rfl) rfl ?_
     refine y (ev_extract rfl rfl) rfl ?_
     refine y (ev_assign rfl) rfl ?_
     refine y (ev_assign rfl) rfl ?_
     refine ynil' (kthn (hK6 _ _ ?_))
     clear hK6
     refine cseq ?_; intro K7 hK7
     refine cseq ?_; intro K8 hK8
     refine creg ?_
     refine y (ev_move rfl) rfl ?_
     refine y (ev_neq rfl rfl) rfl ?_
     try rw [show (!decide (openER E a b = 0)) = true by simp [he0]]
     refine ynil' (kthn (hK8 _ _ ?_))
     clear hK8
     refine ccond1 rfl ?_
     refine cseq ?_; intro K9 hK9
     refine creg ?_
     refine y (ev_move rfl) rfl ?_
     refine y (ev_assign rfl) rfl ?_
     refine y (ev_assign rfl) rfl ?_
     refine ynil' (kthn (hK9 _ _ ?_))
     clear hK9
     refine cret (kthr ?_)
     first
       | (exfalso; omega; done)
       | (refine kretv2 Tryz.results8 rfl rfl (L1 := [rdev p la E] ++ R) (by repeat first | exact .refl | exact .nil | exact .z | apply Pk.s | refine Ge.e ?_ | apply Ge.pick | apply Ge.drop) ?_
          exact ⟨_, .inl ⟨by rw [hwe]; first | decide | assumption, by rw [hwe], rfl⟩, rfl⟩)
       | (refine kretv2 Tryz.results8 rfl rfl (L1 := [sc b38 _ 62, rcelP c25 p (openCR E a b), rdev p la E] ++ R) (by repeat first | exact .refl | exact .nil | exact .z | apply Pk.s | refine Ge.e ?_ | apply Ge.pick | apply Ge.drop) ?_
          (try rw [if_neg (by omega)] at hro); exact ⟨_, .inr ⟨by rw [hwe]; exact he0, b38, c25, rfl, by unfold rdrlP drlOR; rw [Int.toNat_natCast, hro]; try rfl⟩, rfl⟩)
    ·skip
     refine y (ev_move rfl) rfl ?_
     refine y (ev_extract rfl rfl) rfl ?_
     refine y (ev_extract rfl rfl) rfl ?_
     refine y (ev_assign rfl) rfl ?_
     refine y (ev_assign rfl) rfl ?_
     refine ynil' (kthn (hK6 _ _ ?_))
     clear hK6
     refine cseq ?_; intro K10 hK10
     refine cseq ?_; intro K11 hK11
     refine creg ?_
     refine y (ev_move rfl) rfl ?_
     refine y (ev_neq rfl rfl) rfl ?_
     try rw [show (!decide (openER E a b = 0)) = true by simp [he0]]
     refine ynil' (kthn (hK11 _ _ ?_))
     clear hK11
     refine ccond0 rfl ?_
     refine cskip' (kthn (hK10 _ _ ?_))
     clear hK10
     refine cseq ?_; intro K12 hK12
     refine creg ?_
     have hcl := htx he0
     refine y (ev_move rfl) rfl ?_
     refine y (ev_move rfl) rfl ?_
     refine y (ev_move rfl) rfl ?_
     refine y (ev_add rfl rfl) rfl ?_
     rw [wr (by omega) (by omega)]
     refine y (ev_quo rfl rfl (by decide)) rfl ?_
     rw [Int.tdiv_eq_ediv_of_nonneg (by omega), wr (by omega) (by omega), show ((n : Int) + 3) / 4 = ((regs n : Nat) : Int) by unfold regs; omega]
     refine ycall (r7New (n := regs n) ?xn42) rfl Tryz.call37 (by repeat first | exact .nil | exact .z | apply Pk.s | apply Tk.cons) rfl ?_
     case xn42 => omega
     rintro v L' ⟨rfl, rfl⟩
     refine y (ev_build (vs := rdrlC c25 ⟨openCR E a b, n, 0⟩) (zs := _) rfl Tryz.underlying62 Tryz.zeroValue62 rfl (.cons Tryz.sizeOf57 (.cons Tryz.sizeOf3 (.cons Tryz.sizeOf60 .nil))) ⟨⟨_, _, rfl, (by first | rfl | simp), (by first | decide | simp)⟩, ⟨⟨_, _, rfl, (by first | rfl | simp), (by first | decide | simp)⟩, ⟨⟨_, _, rfl, (by first | rfl | simp), (by first | decide | simp)⟩, trivial⟩⟩⟩ (by dsimp [fillL, splice, vcells] <;> rfl)) rfl ?_
     refine ya (ac_box (vs := rdrlC c25 ⟨openCR E a b, n, 0⟩) rfl rfl) rfl ?_
     rintro v L' ⟨b38, rfl, rfl⟩
     refine y (ev_assign rfl) rfl ?_
     refine ynil' (kthn (hK12 _ _ ?_))
     clear hK12
     refine cseq ?_; intro K13 hK13
     refine creg ?_
     refine y (ev_move rfl) rfl ?_
     refine y (ev_nil rfl) rfl ?_
     refine y (ev_fieldAddr 5 rfl Tryz.underlying88 rfl Tryz.sizeOf9) rfl ?_
     refine y (ev_load rfl Tryz.isAgg9 (by repeat first | exact .z | apply In.s) rfl) rfl ?_
     refine ycall (r7Load (t := (openCR E a b).text) ?xl50) rfl Tryz.call38 (by repeat first | exact .nil | exact .z | apply Pk.s | apply Tk.cons) rfl ?_
     case xl50 => omega
     rintro v L' ⟨rfl, rfl⟩
     have hlw := loadP_wf (openCR E a b).text
     have hro : rowOfT (regs n) (openCR E a b).text = if (loadP (openCR E a b).text).2.2 = 0 ∧ (loadP (openCR E a b).text).1 = regs n then (loadP (openCR E a b).text).2.1 else 0 := rfl
     generalize loadP (openCR E a b).text = lp at *
     obtain ⟨n2, b2, e2⟩ := lp
     dsimp only at hlw hro ⊢
     refine y (ev_move rfl) rfl ?_
     refine y (ev_extract rfl rfl) rfl ?_
     refine y (ev_extract rfl rfl) rfl ?_
     refine ya (ac_alloc (vs := rowC 0 0) Tryz.zeroValue60 Tryz.zr7) rfl ?_
     rintro v L' ⟨b13, rfl, rfl⟩
     refine ya0 (ac_storeAll rfl rfl (rowC_one _ _) Tryz.sizeOf60 (by repeat first | exact .z | apply Rp.s) (rowC_len _ _) (rowC_len _ _)) ?_
     rintro v L' ⟨rfl, rfl⟩
     refine y (ev_assign rfl) rfl ?_
     refine ynil' (kthn (hK13 _ _ ?_))
     clear hK13
     refine cseq ?_; intro K14 hK14
     refine cseq ?_; intro K15 hK15
     refine cdraw 11 [(0, true), (1, true), (2, true), (3, true), (4, true), (5, true), (6, true), (7, true), (8, true), (9, true), (10, true)] (_) Tryz.mixed (by kernel_rfl) .refl ?_
     refine hr rfl (ev_move rfl) rfl ?_
     refine hr rfl (ev_eql rfl rfl) rfl ?_
     refine hr rfl (ev_move rfl) rfl ?_
     refine hsplit 49 rfl (fun h60 => ?_) (fun h60 => ?_)
     ·(try simp only [sH] at h60)
      refine hr1 rfl rfl rfl (ev_fieldAddr 0 rfl Tryz.underlying60 rfl Tryz.sizeOf3) rfl ?_
      refine hr1 rfl rfl rfl (ev_load rfl Tryz.isAgg3 (by repeat first | exact .z | apply In.s) rfl) rfl ?_
      refine hr1 rfl rfl rfl (ev_move rfl) rfl ?_
      refine hr1 rfl rfl rfl (ev_nil rfl) rfl ?_
      refine hr1 rfl rfl rfl (ev_fieldAddr 2 rfl Tryz.underlying62 rfl Tryz.sizeOf60) rfl ?_
      refine hr1 rfl rfl rfl (ev_fieldAddr 0 rfl Tryz.underlying60 rfl Tryz.sizeOf3) rfl ?_
      refine hr1 rfl rfl rfl (ev_load rfl Tryz.isAgg3 (by repeat first | exact .z | apply In.s) rfl) rfl ?_
      refine hr1 rfl rfl rfl (ev_eql rfl rfl) rfl ?_
      refine hnil ?_
      refine y (ev_pick1 rfl rfl) rfl ?_
      refine hnoP' (kthn (hK15 _ _ ?_))
      clear hK15
      refine ccond rfl (fun h70 => ?_) (fun h70 => ?_)
      ·(try simp only [sH] at h70)
       refine creg ?_
       obtain rfl : n2 = regs n := by omega
       rw [if_pos ⟨by omega, rfl⟩] at hro
       refine y (ev_move rfl) rfl ?_
       refine y (ev_loadN (u := rowC (regs n) b2) rfl Tryz.isAgg60 Tryz.sizeOf60 (by repeat first | exact .z | apply In.s) (by rw [List.drop_zero, List.take_of_length_le (by rw [rowC_len]; decide)]) (rowC_len _ _)) rfl ?_
       refine y (ev_nil rfl) rfl ?_
       refine y (ev_fieldAddr 2 rfl Tryz.underlying62 rfl Tryz.sizeOf60) rfl ?_
       refine ya0 (ac_storeN (vs' := rdrlC c25 ⟨openCR E a b, n, b2⟩) rfl rfl (rowC_one _ _) Tryz.sizeOf60 (by repeat first | exact .z | apply Rp.s) (rowC_len _ _) (by simp [rdrlC, rowC_len]) (by simp only [rdrlC, Nat.zero_add, List.take_succ_cons, List.take_zero, List.cons_append, List.nil_append]; rw [List.drop_eq_nil_of_le (by simp [rowC_len])]; simp)) ?_
       rintro v L' ⟨rfl, rfl⟩
       refine ynil' (kthn (hK14 _ _ ?_))
       clear hK14
       refine cseq ?_; intro K16 hK16
       refine creg ?_
       refine y (ev_move rfl) rfl ?_
       refine y (ev_assign rfl) rfl ?_
       refine y (ev_assign rfl) rfl ?_
       refine ynil' (kthn (hK16 _ _ ?_))
       clear hK16
       refine cret ?_
       first
         | (exfalso; omega; done)
         | (refine kretv2 Tryz.results8 rfl rfl (L1 := [rdev p la E] ++ R) (by repeat first | exact .refl | exact .nil | exact .z | apply Pk.s | refine Ge.e ?_ | apply Ge.pick | apply Ge.drop) ?_
            exact ⟨_, .inl ⟨by rw [hwe]; first | decide | assumption, by rw [hwe], rfl⟩, rfl⟩)
         | (refine kretv2 Tryz.results8 rfl rfl (L1 := [sc b38 _ 62, rcelP c25 p (openCR E a b), rdev p la E] ++ R) (by repeat first | exact .refl | exact .nil | exact .z | apply Pk.s | refine Ge.e ?_ | apply Ge.pick | apply Ge.drop) ?_
            (try rw [if_neg (by omega)] at hro); exact ⟨_, .inr ⟨by rw [hwe]; exact he0, b38, c25, rfl, by unfold rdrlP drlOR; rw [Int.toNat_natCast, hro]; try rfl⟩, rfl⟩)
      ·(try simp only [sH] at h70)
       refine cskip' (kthn (hK14 _ _ ?_))
       clear hK14
       refine cseq ?_; intro K17 hK17
       refine creg ?_
       refine y (ev_move rfl) rfl ?_
       refine y (ev_assign rfl) rfl ?_
       refine y (ev_assign rfl) rfl ?_
       refine ynil' (kthn (hK17 _ _ ?_))
       clear hK17
       refine cret ?_
       first
         | (exfalso; omega; done)
         | (refine kretv2 Tryz.results8 rfl rfl (L1 := [rdev p la E] ++ R) (by repeat first | exact .refl | exact .nil | exact .z | apply Pk.s | refine Ge.e ?_ | apply Ge.pick | apply Ge.drop) ?_
            exact ⟨_, .inl ⟨by rw [hwe]; first | decide | assumption, by rw [hwe], rfl⟩, rfl⟩)
         | (refine kretv2 Tryz.results8 rfl rfl (L1 := [sc b38 _ 62, rcelP c25 p (openCR E a b), rdev p la E] ++ R) (by repeat first | exact .refl | exact .nil | exact .z | apply Pk.s | refine Ge.e ?_ | apply Ge.pick | apply Ge.drop) ?_
            (try rw [if_neg (by omega)] at hro); exact ⟨_, .inr ⟨by rw [hwe]; exact he0, b38, c25, rfl, by unfold rdrlP drlOR; rw [Int.toNat_natCast, hro]; try rfl⟩, rfl⟩)
     ·(try simp only [sH] at h60)
      refine hr0 rfl rfl rfl rfl rfl ?_
      refine hr0 rfl rfl rfl rfl rfl ?_
      refine hr0 rfl rfl rfl rfl rfl ?_
      refine hr0 rfl rfl rfl rfl rfl ?_
      refine hr0 rfl rfl rfl rfl rfl ?_
      refine hr0 rfl rfl rfl rfl rfl ?_
      refine hr0 rfl rfl rfl rfl rfl ?_
      refine hr0 rfl rfl rfl rfl rfl ?_
      refine hnil ?_
      refine y (ev_pick0 rfl rfl) rfl ?_
      refine hnoP' (kthn (hK15 _ _ ?_))
      clear hK15
      refine ccond0 rfl ?_
      refine cskip' (kthn (hK14 _ _ ?_))
      clear hK14
      refine cseq ?_; intro K18 hK18
      refine creg ?_
      refine y (ev_move rfl) rfl ?_
      refine y (ev_assign rfl) rfl ?_
      refine y (ev_assign rfl) rfl ?_
      refine ynil' (kthn (hK18 _ _ ?_))
      clear hK18
      refine cret ?_
      first
        | (exfalso; omega; done)
        | (refine kretv2 Tryz.results8 rfl rfl (L1 := [rdev p la E] ++ R) (by repeat first | exact .refl | exact .nil | exact .z | apply Pk.s | refine Ge.e ?_ | apply Ge.pick | apply Ge.drop) ?_
           exact ⟨_, .inl ⟨by rw [hwe]; first | decide | assumption, by rw [hwe], rfl⟩, rfl⟩)
        | (refine kretv2 Tryz.results8 rfl rfl (L1 := [sc b38 _ 62, rcelP c25 p (openCR E a b), rdev p la E] ++ R) (by repeat first | exact .refl | exact .nil | exact .z | apply Pk.s | refine Ge.e ?_ | apply Ge.pick | apply Ge.drop) ?_
           (try rw [if_neg (by omega)] at hro); exact ⟨_, .inr ⟨by rw [hwe]; exact he0, b38, c25, rfl, by unfold rdrlP drlOR; rw [Int.toNat_natCast, hro]; try rfl⟩, rfl⟩)
end W
end Go.Proofs
