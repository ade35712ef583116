/- A part of the proof: contracts and plain lemmas, each without conditions beyond those that it names. -/
import Derived.Test.YtnfbhgalkcmbdaaL7
set_option linter.unusedVariables false
set_option linter.unusedSimpArgs false
set_option linter.constructorNameAsVariable false
namespace Go.Proofs
open Go Go.Sl
namespace W
set_option linter.unusedVariables false
/-! package seisinlaw06 -/
theorem nSame [Env] {R : List Seg} {v1 v2 : Value} {u1 u2 : List Bytes} (h1 : RdV R v1 u1.length (strsV u1)) (h2 : RdV R v2 u2.length (strsV u2)) (hl : u1.length ≤ 100000) :
    Con Try.prog 30 [v1, v2] [] R (Is (.bool (decide (u1 = u2))) []) := by
  have hv1 := h1.lenVal
  have hv2 := h2.lenVal
  refine con_enter Try.func30 Try.ntmps30 rfl rfl ?_
  refine cseq ?_; intro K1 hK1
  refine creg ?_
  refine y (ev_assign rfl) rfl ?_
  refine ynil' (kthn (hK1 _ _ ?_))
  clear hK1
  refine cseq ?_; intro K2 hK2
  refine cseq ?_; intro K3 hK3
  refine creg ?_
  refine y (ev_move rfl) rfl ?_
  refine y (ev_lenV rfl Try.underlying45 hv1) rfl ?_
  refine y (ev_move rfl) rfl ?_
  refine y (ev_lenV rfl Try.underlying45 hv2) rfl ?_
  refine y (ev_neq rfl rfl) rfl ?_
  refine ynil' (kthn (hK3 _ _ ?_))
  clear hK3
  refine ccond rfl (fun h7 => ?_) (fun h7 => ?_)
  · (try simp only [decide_eq_true_eq, beq_iff_eq, beq_eq_false_iff_ne, decide_eq_decide, decide_eq_false_iff_not, Bool.not_eq_true', Bool.not_eq_false', Bool.not_eq_true, Bool.not_eq_false, Bool.not_not, ne_eq, Option.isNone_some, Option.isSome_some, Option.isNone_none, Option.isSome_none] at h7)
    have hne : u1 ≠ u2 := fun e => by rw [e] at h7; simp at h7
    refine cseq ?_; intro K4 hK4
    refine creg ?_
    refine y (ev_assign rfl) rfl ?_
    refine ynil' (kthn (hK4 _ _ ?_))
    clear hK4
    refine cret (kthr ?_)
    first
      | (exfalso; omega; done)
      | (refine kretv Try.results30 rfl (L1 := [] ++ R) (by repeat first | exact .refl | exact .nil | exact .z | apply Pk.s | refine Ge.e ?_ | apply Ge.pick | apply Ge.drop) ?_
         exact ⟨_, ⟨by first | rw [decide_eq_false hne] | rw [decide_eq_true heq], rfl⟩, rfl⟩)
  · (try simp only [decide_eq_true_eq, beq_iff_eq, beq_eq_false_iff_ne, decide_eq_decide, decide_eq_false_iff_not, Bool.not_eq_true', Bool.not_eq_false', Bool.not_eq_true, Bool.not_eq_false, Bool.not_not, ne_eq, Option.isNone_some, Option.isSome_some, Option.isNone_none, Option.isSome_none] at h7)
    have hle : u1.length = u2.length := by omega
    refine cskip' (kthn (hK2 _ _ ?_))
    clear hK2
    refine cseq ?_; intro K5 hK5
    refine cseq ?_; intro K6 hK6
    refine creg ?_
    refine y (ev_move rfl) rfl ?_
    refine y (ev_lenV rfl Try.underlying45 hv1) rfl ?_
    refine y (ev_move rfl) rfl ?_
    refine ynil' (kthn (hK6 _ _ ?_))
    clear hK6
    have hJ1 : ∀ x : Nat, ((x ≤ u1.length ∧ u1.take x = u2.take x) ∧ (x = u1.length)) → Sk 26 K5 ([(13, i64 x), (12, i64 u1.length), (0, v1), (1, v2)]) (R) := by
      rintro k ⟨hI1, hX1⟩
      refine hK5 _ _ ?_
      obtain ⟨hk, htk⟩ := hI1
      have heq : u1 = u2 := by rw [hX1, List.take_length, hle, List.take_length] at htk; exact htk
      refine cseq ?_; intro K7 hK7
      refine creg ?_
      refine y (ev_assign rfl) rfl ?_
      refine ynil' (kthn (hK7 _ _ ?_))
      clear hK7
      refine cret ?_
      first
        | (exfalso; omega; done)
        | (refine kretv Try.results30 rfl (L1 := [] ++ R) (by repeat first | exact .refl | exact .nil | exact .z | apply Pk.s | refine Ge.e ?_ | apply Ge.pick | apply Ge.drop) ?_
           exact ⟨_, ⟨by first | rw [decide_eq_false hne] | rw [decide_eq_true heq], rfl⟩, rfl⟩)
    clear hK5
    refine cblock ?_
    refine cloop (A := Nat) (fun x => [(13, i64 x), (12, i64 u1.length), (0, v1), (1, v2)]) (fun x => R) (fun x => x ≤ u1.length ∧ u1.take x = u2.take x) (fun x => u1.length - x) (0) ?_ (by repeat first | exact sub_nil | refine sub_cons rfl ?_ | refine sub_cons' rfl (by simp) ?_) (by repeat first | exact .refl | exact .nil | exact .z | apply Pk.s | refine Ge.e ?_ | apply Ge.pick | apply Ge.drop) ?_
    · exact ⟨Nat.zero_le _, by simp⟩
    rintro k hI1 KL1 hL1
    have hI1o := hI1
    obtain ⟨hk, htk⟩ := hI1
    refine cseq ?_; intro K8 hK8
    refine creg ?_
    refine y (ev_lss rfl rfl) rfl ?_
    refine ynil' (kthn (hK8 _ _ ?_))
    clear hK8
    refine cseq ?_; intro K9 hK9
    refine ccond rfl (fun h14 => ?_) (fun h14 => ?_)
    · (try simp only [decide_eq_true_eq, beq_iff_eq, beq_eq_false_iff_ne, decide_eq_decide, decide_eq_false_iff_not, Bool.not_eq_true', Bool.not_eq_false', Bool.not_eq_true, Bool.not_eq_false, Bool.not_not, ne_eq, Option.isNone_some, Option.isSome_some, Option.isNone_none, Option.isSome_none] at h14)
      refine cskip' (kthn (hK9 _ _ ?_))
      clear hK9
      refine cseq ?_; intro K10 hK10
      refine cblock ?_
      refine cseq ?_; intro K11 hK11
      refine creg ?_
      obtain ⟨y1, hy1⟩ : ∃ y, u1[k]? = some y := ⟨_, List.getElem?_eq_getElem (by omega)⟩
      obtain ⟨y2, hy2⟩ : ∃ y, u2[k]? = some y := ⟨_, List.getElem?_eq_getElem (by omega)⟩
      refine y (ev_move rfl) rfl ?_
      refine y (ev_assign rfl) rfl ?_
      refine ynil' (kthn (hK11 _ _ ?_))
      clear hK11
      refine cseq ?_; intro K12 hK12
      refine cdraw 8 [(0, true), (1, true), (2, true), (3, true), (4, true), (5, true), (6, true), (7, true)] (_) Try.mixed (by kernel_rfl) .refl ?_
      refine hr rfl (ev_move rfl) rfl ?_
      refine hr rfl (ev_move rfl) rfl ?_
      refine hr rfl (ev_ixV h1 rfl rfl Try.underlying45 Try.sizeOf9 (by omega) (by omega)) rfl ?_
      refine hr rfl (ev_loadV k h1 (by repeat first | exact .refl | exact .nil | exact .z | apply Pk.s | refine Ge.e ?_ | apply Ge.pick | apply Ge.drop) rfl Try.isAgg9 (by simp) (strsV_get hy1)) rfl ?_
      refine hr rfl (ev_move rfl) rfl ?_
      refine hr rfl (ev_move rfl) rfl ?_
      refine hr rfl (ev_ixV h2 rfl rfl Try.underlying45 Try.sizeOf9 (by omega) (by omega)) rfl ?_
      refine hr rfl (ev_loadV k h2 (by repeat first | exact .refl | exact .nil | exact .z | apply Pk.s | refine Ge.e ?_ | apply Ge.pick | apply Ge.drop) rfl Try.isAgg9 (by simp) (strsV_get hy2)) rfl ?_
      refine hnil ?_
      first
        | refine y (ev_neqL rfl rfl) rfl ?_
        | refine y (ev_neqS rfl rfl) rfl ?_
      refine hnoP' (kthn (hK12 _ _ ?_))
      clear hK12
      refine ccond rfl (fun h26 => ?_) (fun h26 => ?_)
      · (try simp only [decide_eq_true_eq, beq_iff_eq, beq_eq_false_iff_ne, decide_eq_decide, decide_eq_false_iff_not, Bool.not_eq_true', Bool.not_eq_false', Bool.not_eq_true, Bool.not_eq_false, Bool.not_not, ne_eq, Option.isNone_some, Option.isSome_some, Option.isNone_none, Option.isSome_none] at h26)
        have hne : u1 ≠ u2 := fun e => by subst e; rw [hy1] at hy2; exact h26 (Option.some.inj hy2)
        refine cseq ?_; intro K13 hK13
        refine creg ?_
        refine y (ev_assign rfl) rfl ?_
        refine ynil' (kthn (hK13 _ _ ?_))
        clear hK13
        refine cret (kbr (kthr (kthr (kbr (kthr ?_)))))
        first
          | (exfalso; omega; done)
          | (refine kretv Try.results30 rfl (L1 := [] ++ R) (by repeat first | exact .refl | exact .nil | exact .z | apply Pk.s | refine Ge.e ?_ | apply Ge.pick | apply Ge.drop) ?_
             exact ⟨_, ⟨by first | rw [decide_eq_false hne] | rw [decide_eq_true heq], rfl⟩, rfl⟩)
      · (try simp only [decide_eq_true_eq, beq_iff_eq, beq_eq_false_iff_ne, decide_eq_decide, decide_eq_false_iff_not, Bool.not_eq_true', Bool.not_eq_false', Bool.not_eq_true, Bool.not_eq_false, Bool.not_not, ne_eq, Option.isNone_some, Option.isSome_some, Option.isNone_none, Option.isSome_none] at h26)
        have hnx : u1.take (k + 1) = u2.take (k + 1) := by rw [take_snoc hy1, take_snoc hy2, htk, show y1 = y2 from by simpa using h26]
        refine cskip' (kbn (kthn (hK10 _ _ ?_)))
        clear hK10
        refine creg ?_
        refine y (ev_add rfl rfl) rfl ?_
        rw [show IntKind.i64.wrap ((k:Int) + 1) = ((k+1 : Nat) : Int) by rw [wr (by omega) (by omega)]; rfl]
        refine y (ev_move rfl) rfl ?_
        refine ynil' (kthn ?_)
        exact hL1 (k + 1) (⟨by omega, hnx⟩) (by omega) _ _ (by repeat first | exact sub_nil | refine sub_cons rfl ?_ | refine sub_cons' rfl (by simp) ?_) (by repeat first | exact .refl | exact .nil | exact .z | apply Pk.s | refine Ge.e ?_ | apply Ge.pick | apply Ge.drop)
    · (try simp only [decide_eq_true_eq, beq_iff_eq, beq_eq_false_iff_ne, decide_eq_decide, decide_eq_false_iff_not, Bool.not_eq_true', Bool.not_eq_false', Bool.not_eq_true, Bool.not_eq_false, Bool.not_not, ne_eq, Option.isNone_some, Option.isSome_some, Option.isNone_none, Option.isSome_none] at h14)
      refine cexit (kthx (kthx (kbx (kthn ?_))))
      exact ksub (by repeat first | exact sub_nil | refine sub_cons rfl ?_ | refine sub_cons' rfl (by simp) ?_) (by repeat first | exact .refl | exact .nil | exact .z | apply Pk.s | refine Ge.e ?_ | apply Ge.pick | apply Ge.drop) (hJ1 k ⟨hI1o, by first | trivial | omega⟩)
theorem nLarge [Env] {R : List Seg} {x : ActL} (hx : x.ok R) : Con Try.prog 34 [.agg x.cells.toArray] [] R (fun u L' => ∃ b, u = .bool b ∧ (b = false → x.s.length ≤ 1000 ∧ x.ks.length ≤ 600) ∧ L' = []) := by
  have hkk := hx.keeps
  have hkl := hkk.lenVal
  refine con_enter Try.func34 Try.ntmps34 rfl rfl ?_
  refine cseq ?_; intro K1 hK1
  refine creg ?_
  refine ya (ac_box (vs := x.cells) rfl rfl) rfl ?_
  rintro v L' ⟨b1, rfl, rfl⟩
  refine y (ev_assign rfl) rfl ?_
  refine ynil' (kthn (hK1 _ _ ?_))
  clear hK1
  refine cseq ?_; intro K2 hK2
  refine creg ?_
  refine y (ev_fieldAddr 2 rfl Try.underlying58 rfl Try.sizeOf9) rfl ?_
  refine y (ev_load rfl Try.isAgg9 (by repeat first | exact .z | apply In.s) rfl) rfl ?_
  first
    | refine y (ev_lenStr rfl Try.underlying9) rfl ?_
    | refine y (ev_lenS rfl Try.underlying9) rfl ?_
  refine y (ev_gtr rfl rfl) rfl ?_
  refine y (ev_move rfl) rfl ?_
  refine ysplit 7 rfl (fun h37 => ?_) (fun h37 => ?_)
  · (try simp only [decide_eq_true_eq, beq_iff_eq, beq_eq_false_iff_ne, decide_eq_decide, decide_eq_false_iff_not, Bool.not_eq_true', Bool.not_eq_false', Bool.not_eq_true, Bool.not_eq_false, Bool.not_not, ne_eq, Option.isNone_some, Option.isSome_some, Option.isNone_none, Option.isSome_none] at h37)
    refine yg0 rfl rfl rfl rfl ?_
    refine yg0 rfl rfl rfl rfl ?_
    refine yg0 rfl rfl rfl rfl ?_
    refine yg0 rfl rfl rfl rfl ?_
    refine y (ev_pick1 rfl rfl) rfl ?_
    refine y (ev_assign rfl) rfl ?_
    refine ynil' (kthn (hK2 _ _ ?_))
    clear hK2
    refine cret ?_
    first
      | (exfalso; omega; done)
      | (refine kretv Try.results34 rfl (L1 := [] ++ R) (by repeat first | exact .refl | exact .nil | exact .z | apply Pk.s | refine Ge.e ?_ | apply Ge.pick | apply Ge.drop) ?_
         exact ⟨_, ⟨_, rfl, fun h => by first | omega | (simp at h; done) | (simp at h; omega), rfl⟩, rfl⟩)
  · (try simp only [decide_eq_true_eq, beq_iff_eq, beq_eq_false_iff_ne, decide_eq_decide, decide_eq_false_iff_not, Bool.not_eq_true', Bool.not_eq_false', Bool.not_eq_true, Bool.not_eq_false, Bool.not_not, ne_eq, Option.isNone_some, Option.isSome_some, Option.isNone_none, Option.isSome_none] at h37)
    refine yg1 rfl rfl ?_
    refine y (ev_fieldAddr 3 rfl Try.underlying58 rfl Try.sizeOf56) rfl ?_
    refine yg1 rfl rfl ?_
    refine y (ev_load rfl Try.isAgg56 (by repeat first | exact .z | apply In.s) rfl) rfl ?_
    refine yg1 rfl rfl ?_
    refine y (ev_lenV rfl Try.underlying56 hkl) rfl ?_
    refine yg1 rfl rfl ?_
    refine y (ev_gtr rfl rfl) rfl ?_
    refine y (ev_pick0 rfl rfl) rfl ?_
    refine y (ev_assign rfl) rfl ?_
    refine ynil' (kthn (hK2 _ _ ?_))
    clear hK2
    refine cret ?_
    first
      | (exfalso; omega; done)
      | (refine kretv Try.results34 rfl (L1 := [] ++ R) (by repeat first | exact .refl | exact .nil | exact .z | apply Pk.s | refine Ge.e ?_ | apply Ge.pick | apply Ge.drop) ?_
         exact ⟨_, ⟨_, rfl, fun h => by first | omega | (simp at h; done) | (simp at h; omega), rfl⟩, rfl⟩)
def secsOf (D : Dev) (k : Nat) : List Bytes := (List.range k).map fun i => D.sec (i : Nat)
theorem secsOf_succ (D : Dev) (k : Nat) : secsOf D (k + 1) = secsOf D k ++ [D.sec (k : Nat)] := by simp [secsOf, List.range_succ]
theorem secsOf_len (D : Dev) (k : Nat) : (secsOf D k).length = k := by simp [secsOf]
theorem nSectors [Env] {R : List Seg} {q : Q3} {D : Dev} (hD : D.ok) (hd : D.dead = false) : Con Try.prog 36 [dp q] [dev q D] R (KSv 9 (secsOf D D.l.length).length 1 (strsV (secsOf D D.l.length)) [dev q D]) := by
  have h512 := hD.n
  refine con_enter Try.func36 Try.ntmps36 rfl rfl ?_
  refine cseq ?_; intro K1 hK1
  refine creg ?_
  refine y (ev_assign rfl) rfl ?_
  refine ynil' (kthn (hK1 _ _ ?_))
  clear hK1
  refine cseq ?_; intro K2 hK2
  refine creg ?_
  refine ya (ac_bslice0 Try.underlying45 Try.sizeOf9) rfl ?_
  rintro v L' ⟨b7, rfl, rfl⟩
  refine y (ev_assign rfl) rfl ?_
  refine ynil' (kthn (hK2 _ _ ?_))
  clear hK2
  refine cseq ?_; intro K3 hK3
  refine cseq ?_; intro K4 hK4
  refine creg ?_
  refine y (ev_assign rfl) rfl ?_
  refine ynil' (kthn (hK4 _ _ ?_))
  clear hK4
  have hJ1 : ∀ x : Nat × Sv, ((x.1 ≤ D.l.length ∧ svOk x.2 (secsOf D x.1).length 1 (strsV (secsOf D x.1))) ∧ (x.1 = D.l.length)) → Sk 26 K3 ([(4, i64 x.1), (3, svVal x.2 (secsOf D x.1).length), (0, dp q)]) ([dev q D, svSeg x.2 9 (strsV (secsOf D x.1))] ++ R) := by
    rintro ⟨k, s⟩ ⟨hI1, hX1⟩
    refine hK3 _ _ ?_
    obtain ⟨hk, ok⟩ := hI1; dsimp only at hk ok ⊢; have hlk := secsOf_len D k
    dsimp only at hX1; subst hX1
    refine cseq ?_; intro K5 hK5
    refine creg ?_
    refine y (ev_move rfl) rfl ?_
    refine y (ev_assign rfl) rfl ?_
    refine ynil' (kthn (hK5 _ _ ?_))
    clear hK5
    refine cret ?_
    first
      | (exfalso; omega; done)
      | (refine kretv Try.results36 rfl (L1 := [svSeg s 9 _, dev q D] ++ R) (by repeat first | exact .refl | exact .nil | exact .z | apply Pk.s | refine Ge.e ?_ | apply Ge.pick | apply Ge.drop) ?_
         exact ⟨_, ⟨s, rfl, ok, rfl⟩, rfl⟩)
  clear hK3
  refine cblock ?_
  refine cloop (A := Nat × Sv) (fun x => [(4, i64 x.1), (3, svVal x.2 (secsOf D x.1).length), (0, dp q)]) (fun x => [dev q D, svSeg x.2 9 (strsV (secsOf D x.1))] ++ R) (fun x => x.1 ≤ D.l.length ∧ svOk x.2 (secsOf D x.1).length 1 (strsV (secsOf D x.1))) (fun x => D.l.length - x.1) ((0, some (b7, 0, []))) ?_ (by repeat first | exact sub_nil | refine sub_cons rfl ?_ | refine sub_cons' rfl (by simp) ?_) (by repeat first | exact .refl | exact .nil | exact .z | apply Pk.s | refine Ge.e ?_ | apply Ge.pick | apply Ge.drop) ?_
  · exact ⟨Nat.zero_le _, Nat.zero_le _, by decide, rfl, rfl⟩
  rintro ⟨k, s⟩ hI1 KL1 hL1
  have hI1o := hI1
  obtain ⟨hk, ok⟩ := hI1; dsimp only at hk ok ⊢; have hlk := secsOf_len D k
  refine cseq ?_; intro K6 hK6
  refine cseq ?_; intro K7 hK7
  refine creg ?_
  refine y (ev_move rfl) rfl ?_
  refine y (ev_move rfl) rfl ?_
  refine ycall (secSectors) rfl Try.call53 (by repeat first | exact .nil | exact .z | apply Pk.s | apply Tk.cons) rfl ?_
  rintro v L' ⟨rfl, rfl⟩
  refine y (ev_lss rfl rfl) rfl ?_
  refine ynil' (kthn (hK7 _ _ ?_))
  clear hK7
  refine ccond rfl (fun h56 => ?_) (fun h56 => ?_)
  · (try simp only [decide_eq_true_eq, beq_iff_eq, beq_eq_false_iff_ne, decide_eq_decide, decide_eq_false_iff_not, Bool.not_eq_true', Bool.not_eq_false', Bool.not_eq_true, Bool.not_eq_false, Bool.not_not, ne_eq, Option.isNone_some, Option.isSome_some, Option.isNone_none, Option.isSome_none] at h56)
    have hh0 : D.has (k : Int) = 0 := by unfold Dev.has; rw [if_neg (by rw [hd]; decide), if_neg (by omega)]
    have hsl : (D.sec (k : Int)).length = 144 := sec_length hD _
    refine cskip' (kthn (hK6 _ _ ?_))
    clear hK6
    refine cseq ?_; intro K8 hK8
    refine cblock ?_
    refine cseq ?_; intro K9 hK9
    refine creg ?_
    refine y (ev_move rfl) rfl ?_
    refine y (ev_move rfl) rfl ?_
    refine ycall (secReadS hD hh0) rfl Try.call38 (by repeat first | exact .nil | exact .z | apply Pk.s | apply Tk.cons) rfl ?_
    rintro v L' ⟨s17, rfl, ok17, rfl⟩
    refine y (ev_move rfl) rfl ?_
    refine y (ev_extract rfl rfl) rfl ?_
    refine y (ev_extract rfl rfl) rfl ?_
    refine y (ev_assign rfl) rfl ?_
    refine y (ev_assign rfl) rfl ?_
    refine ynil' (kthn (hK9 _ _ ?_))
    clear hK9
    refine creg ?_
    refine y (ev_move rfl) rfl ?_
    refine y (ev_move rfl) rfl ?_
    refine y (ev_toStrB (rdY_sv (L := [svSeg s17 5 (bytesV (D.sec (k : Int)))]) .z ok17).rd.bytes (by repeat first | exact .refl | exact .nil | exact .z | apply Pk.s | refine Ge.e ?_ | apply Ge.pick | apply Ge.drop) rfl Try.underlying22 Try.underlying9 Try.underlying5) rfl ?_
    refine ya (ac_bsliceR rfl Try.underlying45 Try.sizeOf9 Try.zeroValue9 rfl rfl rfl rfl ⟨⟨_, _, rfl, (by first | rfl | simp), (by first | decide | simp)⟩, trivial⟩ (by dsimp [fillL, splice, vcells, reps] <;> rfl)) rfl ?_
    rintro v L' ⟨b23, rfl, rfl⟩
    refine ya (ac_append (s := s) (xs := strsV (secsOf D k)) (m := (secsOf D k).length) (k := 1) (us := [str (D.sec (k : Int))]) (size := 1) rfl rfl (by repeat first | exact .z | apply Pk.s) Try.underlying45 Try.underlying45 (by intro q hq; cases hq) Try.typeInfo9 rfl rfl rfl ?ok69 ?src69 ?one69 ?big69) rfl ?_
    case ok69 => exact ok
    case src69 => exact src_at (by repeat first | exact .z | apply In.s) rfl rfl
    case one69 => intro u hu; simp at hu; subst hu; rfl
    case big69 => show (_ + _) * 17 ≤ _; omega
    rintro v L' ⟨s24, rfl, ok24, rfl⟩
    rw [show strsV (secsOf D k) ++ [str (D.sec (k : Int))] = strsV (secsOf D (k + 1)) by rw [secsOf_succ]; simp [strsV], show (secsOf D k).length + 1 = (secsOf D (k + 1)).length by rw [secsOf_succ]; simp] at ok24 ⊢
    refine y (ev_assign rfl) rfl ?_
    refine ynil' (kbn (kthn (hK8 _ _ ?_)))
    clear hK8
    refine creg ?_
    refine y (ev_move rfl) rfl ?_
    refine y (ev_add rfl rfl) rfl ?_
    rw [show IntKind.i64.wrap ((k:Int) + 1) = ((k+1 : Nat) : Int) by rw [wr (by omega) (by omega)]; rfl]
    refine y (ev_assign rfl) rfl ?_
    refine ynil' (kthn ?_)
    exact hL1 ((k + 1, s24)) (⟨by dsimp only; omega, ok24⟩) (by dsimp only; omega) _ _ (by repeat first | exact sub_nil | refine sub_cons rfl ?_ | refine sub_cons' rfl (by simp) ?_) (by repeat first | exact .refl | exact .nil | exact .z | apply Pk.s | refine Ge.e ?_ | apply Ge.pick | apply Ge.drop)
  · (try simp only [decide_eq_true_eq, beq_iff_eq, beq_eq_false_iff_ne, decide_eq_decide, decide_eq_false_iff_not, Bool.not_eq_true', Bool.not_eq_false', Bool.not_eq_true, Bool.not_eq_false, Bool.not_not, ne_eq, Option.isNone_some, Option.isSome_some, Option.isNone_none, Option.isSome_none] at h56)
    refine cexit (kthx (kthx (kbx (kthn ?_))))
    exact ksub (by repeat first | exact sub_nil | refine sub_cons rfl ?_ | refine sub_cons' rfl (by simp) ?_) (by repeat first | exact .refl | exact .nil | exact .z | apply Pk.s | refine Ge.e ?_ | apply Ge.pick | apply Ge.drop) (hJ1 ⟨k, s⟩ ⟨hI1o, by first | trivial | omega⟩)
theorem awake6 [Env] {R : List Seg} : Con Try.prog 25 [] [] R (Is (.bool true) []) := by
  have hG0 : LDev 2 2 0 1 (Dev.new 4) 4 0 1 0 0 [] := new_ldev (by decide) (by decide) ⟨by decide, by decide⟩ (by decide) ⟨by decide, by decide⟩ ⟨by decide, by decide⟩ (by decide) (by decide)
  refine con_enter Try.func25 Try.ntmps25 rfl rfl ?_
  refine cseq ?_; intro K1 hK1
  refine creg ?_
  refine y (ev_assign rfl) rfl ?_
  refine ynil' (kthn (hK1 _ _ ?_))
  clear hK1
  refine cseq ?_; intro K2 hK2
  refine creg ?_
  refine ycall (secNew (n := 4) (by omega)) rfl Try.call12 (by repeat first | exact .nil | exact .z | apply Pk.s | apply Tk.cons) rfl ?_
  rintro v L' ⟨q15, rfl, rfl⟩
  refine y (ev_assign rfl) rfl ?_
  refine ynil' (kthn (hK2 _ _ ?_))
  clear hK2
  refine cseq ?_; intro K3 hK3
  refine cseq ?_; intro K4 hK4
  refine creg ?_
  refine y (ev_move rfl) rfl ?_
  skip
  · skip
    refine y (ev_eqlPnil rfl rfl Try.underlying24) rfl ?_
    refine ynil' (kthn (hK4 _ _ ?_))
    clear hK4
    refine ccond0 rfl ?_
    refine cskip' (kthn (hK3 _ _ ?_))
    clear hK3
    refine cseq ?_; intro K5 hK5
    refine creg ?_
    refine y (ev_move rfl) rfl ?_
    refine ycall (gOpen hG0 (by decide) rfl) rfl Try.call26 (by repeat first | exact .nil | exact .z | apply Pk.s | apply Tk.cons) rfl ?_
    rintro v L' ⟨D1, p20, c20, s20, rfl, hG1, hf20, ok20, rfl⟩
    refine y (ev_move rfl) rfl ?_
    refine y (ev_extract rfl rfl) rfl ?_
    refine y (ev_extract rfl rfl) rfl ?_
    refine y (ev_assign rfl) rfl ?_
    refine y (ev_assign rfl) rfl ?_
    refine ynil' (kthn (hK5 _ _ ?_))
    clear hK5
    refine cseq ?_; intro K6 hK6
    refine creg ?_
    refine y (ev_move rfl) rfl ?_
    refine ycall (bOpenBad hG1.up.ok (.inr (.inr (.inr (.inr (.inr ⟨by decide, by decide⟩))))) (by decide) (by decide)) rfl Try.call26 (by repeat first | exact .nil | exact .z | apply Pk.s | apply Tk.cons) rfl ?_
    rintro v L' ⟨rfl, rfl⟩
    refine y (ev_move rfl) rfl ?_
    refine y (ev_extract rfl rfl) rfl ?_
    refine y (ev_extract rfl rfl) rfl ?_
    refine y (ev_assign rfl) rfl ?_
    refine y (ev_assign rfl) rfl ?_
    refine ynil' (kthn (hK6 _ _ ?_))
    clear hK6
    refine cseq ?_; intro K7 hK7
    refine cseq ?_; intro K8 hK8
    refine creg ?_
    refine y (ev_move rfl) rfl ?_
    skip
    · skip
      refine y (ev_eqlPnil rfl rfl Try.underlying46) rfl ?_
      generalize Dev.new 4 = D0 at *
      refine y (ev_move rfl) rfl ?_
      refine yg1 rfl rfl ?_
      refine y (ev_move rfl) rfl ?_
      refine yg1 rfl rfl ?_
      refine y (ev_neq rfl rfl) rfl ?_
      refine y (ev_pick0 rfl rfl) rfl ?_
      refine y (ev_move rfl) rfl ?_
      refine yg1 rfl rfl ?_
      refine y (ev_move rfl) rfl ?_
      refine yg1 rfl rfl ?_
      refine y (ev_neq rfl rfl) rfl ?_
      refine y (ev_pick0 rfl rfl) rfl ?_
      refine ynil' (kthn (hK8 _ _ ?_))
      clear hK8
      refine ccond0 rfl ?_
      refine cskip' (kthn (hK7 _ _ ?_))
      clear hK7
      refine cseq ?_; intro K9 hK9
      refine creg ?_
      refine y (ev_move rfl) rfl ?_
      refine ycall (gAppend (s := [97]) (N := 4) (k := 1) ?ag104 ?ak104 ?as104) rfl Try.call27 (by repeat first | exact .nil | exact .z | apply Pk.s | apply Tk.cons) rfl ?_
      case ag104 => assumption
      case ak104 => decide
      case as104 => assumption
      rintro v L' ⟨s39, D39, l39, rfl, hG39, hl39, hf39, hz39, ok39, rfl⟩
      obtain rfl : l39 = [([97], 1)] := hl39
      refine y (ev_assign rfl) rfl ?_
      refine ynil' (kthn (hK9 _ _ ?_))
      clear hK9
      refine cseq ?_; intro K10 hK10
      refine creg ?_
      refine y (ev_move rfl) rfl ?_
      refine ycall (gAppend (s := [98]) (N := 4) (k := 2) ?ag107 ?ak107 ?as107) rfl Try.call27 (by repeat first | exact .nil | exact .z | apply Pk.s | apply Tk.cons) rfl ?_
      case ag107 => assumption
      case ak107 => decide
      case as107 => assumption
      rintro v L' ⟨s41, D41, l41, rfl, hG41, hl41, hf41, hz41, ok41, rfl⟩
      obtain rfl : l41 = [([97], 1), ([98], 1)] := hl41
      refine y (ev_assign rfl) rfl ?_
      refine ynil' (kthn (hK10 _ _ ?_))
      clear hK10
      refine cseq ?_; intro K11 hK11
      refine creg ?_
      refine y (ev_move rfl) rfl ?_
      refine ycall (gAppend (s := [99]) (N := 4) (k := 3) ?ag110 ?ak110 ?as110) rfl Try.call27 (by repeat first | exact .nil | exact .z | apply Pk.s | apply Tk.cons) rfl ?_
      case ag110 => assumption
      case ak110 => decide
      case as110 => assumption
      rintro v L' ⟨s43, D43, l43, rfl, hG43, hl43, hf43, hz43, ok43, rfl⟩
      obtain rfl : l43 = [([97], 1), ([98], 1)] := hl43
      refine y (ev_assign rfl) rfl ?_
      refine ynil' (kthn (hK11 _ _ ?_))
      clear hK11
      refine cseq ?_; intro K12 hK12
      refine creg ?_
      refine y (ev_move rfl) rfl ?_
      refine ycall (gTrim (m := 2) (N := 4) (k := 4) ?ag113 ?ak113 ?as113) rfl Try.call28 (by repeat first | exact .nil | exact .z | apply Pk.s | apply Tk.cons) rfl ?_
      case ag113 => assumption
      case ak113 => decide
      case as113 => assumption
      rintro v L' ⟨s45, D45, h45, e45, l45, rfl, hG45, hh45, hl45, hf45, ok45, rfl⟩
      obtain rfl : h45 = 2 := hh45
      obtain rfl : l45 = [([98], 1)] := hl45
      refine y (ev_assign rfl) rfl ?_
      refine ynil' (kthn (hK12 _ _ ?_))
      clear hK12
      refine cseq ?_; intro K13 hK13
      refine creg ?_
      refine y (ev_move rfl) rfl ?_
      refine ycall (gAppend (s := [99]) (N := 4) (k := 5) ?ag116 ?ak116 ?as116) rfl Try.call27 (by repeat first | exact .nil | exact .z | apply Pk.s | apply Tk.cons) rfl ?_
      case ag116 => assumption
      case ak116 => decide
      case as116 => assumption
      rintro v L' ⟨s47, D47, l47, rfl, hG47, hl47, hf47, hz47, ok47, rfl⟩
      obtain rfl : l47 = [([98], 1), ([99], 1)] := hl47
      refine y (ev_assign rfl) rfl ?_
      refine ynil' (kthn (hK13 _ _ ?_))
      clear hK13
      refine cseq ?_; intro K14 hK14
      refine creg ?_
      refine y (ev_move rfl) rfl ?_
      refine ycall (gSync (N := 4) (k := 6) ?ag119 ?as119) rfl Try.call35 (by repeat first | exact .nil | exact .z | apply Pk.s | apply Tk.cons) rfl ?_
      case ag119 => assumption
      case as119 => assumption
      rintro v L' ⟨D49, rfl, hG49, hes49, hf49, ok49, rfl⟩
      refine y (ev_assign rfl) rfl ?_
      refine ynil' (kthn (hK14 _ _ ?_))
      clear hK14
      refine cseq ?_; intro K15 hK15
      refine creg ?_
      refine y (ev_move rfl) rfl ?_
      refine ycall (secCrash (ks := []) ?ok122 ?ks122) rfl Try.call40 (by repeat first | exact .nil | exact .z | apply Pk.s | apply Tk.cons) rfl ?_
      case ok122 => exact hG49.up.ok
      case ks122 => exact rdV_nil
      rintro v L' ⟨rfl, rfl⟩
      have hGc := hG49.crash hes49 []
      refine ynil' (kthn (hK15 _ _ ?_))
      clear hK15
      refine cseq ?_; intro K16 hK16
      refine creg ?_
      refine y (ev_move rfl) rfl ?_
      refine ycall (gOpen hGc (by decide) rfl) rfl Try.call26 (by repeat first | exact .nil | exact .z | apply Pk.s | apply Tk.cons) rfl ?_
      rintro v L' ⟨D2, p54, c54, s54, rfl, hG2, hf54, ok54, rfl⟩
      refine y (ev_move rfl) rfl ?_
      refine y (ev_extract rfl rfl) rfl ?_
      refine y (ev_extract rfl rfl) rfl ?_
      refine y (ev_assign rfl) rfl ?_
      refine y (ev_assign rfl) rfl ?_
      refine ynil' (kthn (hK16 _ _ ?_))
      clear hK16
      refine cseq ?_; intro K17 hK17
      refine cseq ?_; intro K18 hK18
      refine creg ?_
      refine y (ev_move rfl) rfl ?_
      skip
      · skip
        refine y (ev_eqlPnil rfl rfl Try.underlying46) rfl ?_
        refine ynil' (kthn (hK18 _ _ ?_))
        clear hK18
        refine ccond0 rfl ?_
        refine cskip' (kthn (hK17 _ _ ?_))
        clear hK17
        refine cseq ?_; intro K19 hK19
        refine creg ?_
        refine y (ev_move rfl) rfl ?_
        refine ycall (bRecords ?ra133 ?rb133) rfl Try.call31 (by repeat first | exact .nil | exact .z | apply Pk.s | apply Tk.cons) rfl ?_
        case ra133 => assumption
        case rb133 => (show (2 : Nat) ≤ 512; decide)
        rintro v L' ⟨s60, rfl, ok60, rfl⟩
        have hrd : RdV [svSeg s60 9 (strsV [[98], [99]])] (svVal s60 2) 2 (strsV [[98], [99]]) := rdV_sv .z ok60
        refine y (ev_assign rfl) rfl ?_
        refine ynil' (kthn (hK19 _ _ ?_))
        clear hK19
        refine cseq ?_; intro K20 hK20
        refine creg ?_
        refine y (ev_move rfl) rfl ?_
        skip
        · skip
          refine y (ev_eql rfl rfl) rfl ?_
          refine y (ev_move rfl) rfl ?_
          refine yg1 rfl rfl ?_
          refine y (ev_move rfl) rfl ?_
          refine yg1 rfl rfl ?_
          refine y (ev_eql rfl rfl) rfl ?_
          refine y (ev_pick1 rfl rfl) rfl ?_
          refine y (ev_move rfl) rfl ?_
          refine yg1 rfl rfl ?_
          refine y (ev_move rfl) rfl ?_
          refine yg1 rfl rfl ?_
          refine y (ev_eql rfl rfl) rfl ?_
          refine y (ev_pick1 rfl rfl) rfl ?_
          refine y (ev_move rfl) rfl ?_
          refine yg1 rfl rfl ?_
          refine y (ev_move rfl) rfl ?_
          refine yg1 rfl rfl ?_
          refine y (ev_eql rfl rfl) rfl ?_
          refine y (ev_pick1 rfl rfl) rfl ?_
          refine y (ev_move rfl) rfl ?_
          refine yg1 rfl rfl ?_
          refine y (ev_move rfl) rfl ?_
          refine yg1 rfl rfl ?_
          refine y (ev_eql rfl rfl) rfl ?_
          refine y (ev_pick1 rfl rfl) rfl ?_
          refine y (ev_move rfl) rfl ?_
          refine yg1 rfl rfl ?_
          refine y (ev_move rfl) rfl ?_
          refine yg1 rfl rfl ?_
          refine y (ev_eql rfl rfl) rfl ?_
          refine y (ev_pick1 rfl rfl) rfl ?_
          refine y (ev_move rfl) rfl ?_
          refine yg1 rfl rfl ?_
          refine y (ev_move rfl) rfl ?_
          refine yg1 rfl rfl ?_
          refine y (ev_eql rfl rfl) rfl ?_
          refine y (ev_pick1 rfl rfl) rfl ?_
          refine y (ev_move rfl) rfl ?_
          refine yg1 rfl rfl ?_
          refine y (ev_move rfl) rfl ?_
          refine yg1 rfl rfl ?_
          refine y (ev_lenV rfl Try.underlying45 hrd.lenVal) rfl ?_
          refine yg1 rfl rfl ?_
          refine y (ev_eql rfl rfl) rfl ?_
          refine y (ev_pick1 rfl rfl) rfl ?_
          refine y (ev_move rfl) rfl ?_
          refine yg1 rfl rfl ?_
          refine y (ev_move rfl) rfl ?_
          refine yg1 rfl rfl ?_
          refine y (ev_ixV hrd rfl rfl Try.underlying45 Try.sizeOf9 (by decide) (by decide)) rfl ?_
          refine yg1 rfl rfl ?_
          refine y (ev_loadV 0 hrd (by repeat first | exact .refl | exact .nil | exact .z | apply Pk.s | refine Ge.e ?_ | apply Ge.pick | apply Ge.drop) rfl Try.isAgg9 rfl rfl) rfl ?_
          refine yg1 rfl rfl ?_
          refine y (ev_eqlL (p := [98]) (q := [98]) rfl rfl) rfl ?_
          refine y (ev_pick1 rfl rfl) rfl ?_
          refine y (ev_move rfl) rfl ?_
          refine yg1 rfl rfl ?_
          refine y (ev_move rfl) rfl ?_
          refine yg1 rfl rfl ?_
          refine y (ev_ixV hrd rfl rfl Try.underlying45 Try.sizeOf9 (by decide) (by decide)) rfl ?_
          refine yg1 rfl rfl ?_
          refine y (ev_loadV 1 hrd (by repeat first | exact .refl | exact .nil | exact .z | apply Pk.s | refine Ge.e ?_ | apply Ge.pick | apply Ge.drop) rfl Try.isAgg9 rfl rfl) rfl ?_
          refine yg1 rfl rfl ?_
          refine y (ev_eqlL (p := [99]) (q := [99]) rfl rfl) rfl ?_
          refine y (ev_pick1 rfl rfl) rfl ?_
          refine y (ev_move rfl) rfl ?_
          refine yg1 rfl rfl ?_
          refine y (ev_move rfl) rfl ?_
          refine yg1 rfl rfl ?_
          refine ycall (bHead) rfl Try.call29 (by repeat first | exact .nil | exact .z | apply Pk.s | apply Tk.cons) rfl ?_
          rintro v L' ⟨rfl, rfl⟩
          refine yg1 rfl rfl ?_
          refine y (ev_eql rfl rfl) rfl ?_
          refine y (ev_pick1 rfl rfl) rfl ?_
          refine y (ev_move rfl) rfl ?_
          refine yg1 rfl rfl ?_
          refine y (ev_move rfl) rfl ?_
          refine yg1 rfl rfl ?_
          refine ycall (bTail ?ta185 ?tb185 ?tc185 ?td185) rfl Try.call39 (by repeat first | exact .nil | exact .z | apply Pk.s | apply Tk.cons) rfl ?_
          case ta185 => assumption
          case tb185 => (show (0 : Int) ≤ 2; decide)
          case tc185 => (show (2 : Int) + ((2 : Nat) : Int) ≤ 4611686018427388416; decide)
          case td185 => (show (2 : Nat) ≤ 512; decide)
          rintro v L' ⟨rfl, rfl⟩
          refine yg1 rfl rfl ?_
          refine y (ev_eql rfl rfl) rfl ?_
          refine y (ev_pick1 rfl rfl) rfl ?_
          refine y (ev_move rfl) rfl ?_
          refine yg1 rfl rfl ?_
          refine y (ev_move rfl) rfl ?_
          refine yg1 rfl rfl ?_
          refine ycall (bTime) rfl Try.call33 (by repeat first | exact .nil | exact .z | apply Pk.s | apply Tk.cons) rfl ?_
          rintro v L' ⟨rfl, rfl⟩
          refine yg1 rfl rfl ?_
          refine y (ev_eql rfl rfl) rfl ?_
          refine y (ev_pick1 rfl rfl) rfl ?_
          refine y (ev_move rfl) rfl ?_
          refine yg1 rfl rfl ?_
          refine y (ev_move rfl) rfl ?_
          refine yg1 rfl rfl ?_
          refine ycall (bFree ?fa195 ?fb195 ?fc195) rfl Try.call32 (by repeat first | exact .nil | exact .z | apply Pk.s | apply Tk.cons) rfl ?_
          case fa195 => assumption
          case fb195 => (show (2 : Nat) ≤ 512; decide)
          case fc195 => (show (2 : Nat) ≤ 512; decide)
          rintro v L' ⟨rfl, rfl⟩
          refine yg1 rfl rfl ?_
          refine y (ev_eql rfl rfl) rfl ?_
          refine y (ev_pick1 rfl rfl) rfl ?_
          refine y (ev_assign rfl) rfl ?_
          refine ynil' (kthn (hK20 _ _ ?_))
          clear hK20
          refine cret ?_
          first
            | (exfalso; omega; done)
            | (refine kretv Try.results25 rfl (L1 := R) (by repeat first | exact .refl | exact .nil | exact .z | apply Pk.s | refine Ge.e ?_ | apply Ge.pick | apply Ge.drop) ?_
               exact ⟨_, ⟨by rfl, rfl⟩, by rfl⟩)
end W
end Go.Proofs
