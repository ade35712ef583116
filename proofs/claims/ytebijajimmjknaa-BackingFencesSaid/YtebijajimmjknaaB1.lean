/- A part of the proof: contracts and plain lemmas, each without conditions beyond those that it names. -/
import Derived.Test.YtebijajimmjknaaW1
import Derived.Test.YtebijajimmjknaaGJ
import Derived.Test.YtebijajimmjknaaGC
set_option linter.unusedVariables false
set_option linter.unusedSimpArgs false
set_option linter.constructorNameAsVariable false
namespace Go.Proofs
open Go Go.Sl
namespace W
set_option linter.unusedVariables false
/-! package backing -/
theorem bOdd [Env] {R : List Seg} {n : Int} : Con Try.prog 67 [i64 n] [] R (Is (.bool (oddB n)) []) := by
  refine con_enter Try.func67 Try.ntmps67 rfl rfl ?_
  refine cseq ?_; intro K1 hK1
  refine creg ?_
  refine y (ev_assign rfl) rfl ?_
  refine ynil' (kthn (hK1 _ _ ?_))
  clear hK1
  refine cseq ?_; intro K2 hK2
  refine creg ?_
  refine y (ev_move rfl) rfl ?_
  refine y (ev_lss rfl rfl) rfl ?_
  refine y (ev_move rfl) rfl ?_
  refine ysplit 5 rfl (fun h5 => ?_) (fun h5 => ?_)
  · (try simp only [decide_eq_true_eq, beq_iff_eq, beq_eq_false_iff_ne, decide_eq_decide, decide_eq_false_iff_not, Bool.not_eq_true', Bool.not_eq_false', Bool.not_eq_true, Bool.not_eq_false, Bool.not_not, ne_eq, Option.isNone_some, Option.isSome_some, Option.isNone_none, Option.isSome_none] at h5)
    refine yg0 rfl rfl rfl rfl ?_
    refine yg0 rfl rfl rfl rfl ?_
    refine y (ev_pick1 rfl rfl) rfl ?_
    refine y (ev_assign rfl) rfl ?_
    refine ynil' (kthn (hK2 _ _ ?_))
    clear hK2
    refine cret ?_
    first
      | (exfalso; omega; done)
      | (refine kretv Try.results67 rfl (L1 := R) (by repeat first | exact .refl | exact .nil | exact .z | apply Pk.s | refine Ge.e ?_ | apply Ge.pick | apply Ge.drop) ?_
         exact ⟨_, ⟨by first | rfl | (unfold oddB; rw [decide_eq_false (show ¬ n < 0 by omega)]; rfl) | (unfold oddB; rw [decide_eq_true (show n < 0 by omega)]; rfl), rfl⟩, by first | rfl | (unfold oddB; rw [decide_eq_false (show ¬ n < 0 by omega)]; rfl) | (unfold oddB; rw [decide_eq_true (show n < 0 by omega)]; rfl)⟩)
  · (try simp only [decide_eq_true_eq, beq_iff_eq, beq_eq_false_iff_ne, decide_eq_decide, decide_eq_false_iff_not, Bool.not_eq_true', Bool.not_eq_false', Bool.not_eq_true, Bool.not_eq_false, Bool.not_not, ne_eq, Option.isNone_some, Option.isSome_some, Option.isNone_none, Option.isSome_none] at h5)
    refine yg1 rfl rfl ?_
    refine y (ev_move rfl) rfl ?_
    refine yg1 rfl rfl ?_
    refine y (ev_gtr rfl rfl) rfl ?_
    refine y (ev_pick0 rfl rfl) rfl ?_
    refine y (ev_assign rfl) rfl ?_
    refine ynil' (kthn (hK2 _ _ ?_))
    clear hK2
    refine cret ?_
    first
      | (exfalso; omega; done)
      | (refine kretv Try.results67 rfl (L1 := R) (by repeat first | exact .refl | exact .nil | exact .z | apply Pk.s | refine Ge.e ?_ | apply Ge.pick | apply Ge.drop) ?_
         exact ⟨_, ⟨by first | rfl | (unfold oddB; rw [decide_eq_false (show ¬ n < 0 by omega)]; rfl) | (unfold oddB; rw [decide_eq_true (show n < 0 by omega)]; rfl), rfl⟩, by first | rfl | (unfold oddB; rw [decide_eq_false (show ¬ n < 0 by omega)]; rfl) | (unfold oddB; rw [decide_eq_true (show n < 0 by omega)]; rfl)⟩)
abbrev oddF : Value := .func (.func 67) #[] #[]
theorem bIndex [Env] {R : List Seg} {v : Value} {l : List Int} (hv : RdV R v l.length (intsV l)) (hll : l.length ≤ 1000) : Con Try.prog 82 [v, oddF] [] R (fun u L' => ∃ r : Int, u = i64 r ∧ (0 ≤ r ↔ l.any oddB = true) ∧ L' = []) := by
  have hvl := hv.lenVal
  refine con_enter Try.func82 Try.ntmps82 rfl rfl ?_
  refine cseq ?_; intro K1 hK1
  refine creg ?_
  refine y (ev_assign rfl) rfl ?_
  refine ynil' (kthn (hK1 _ _ ?_))
  clear hK1
  refine cseq ?_; intro K2 hK2
  refine cseq ?_; intro K3 hK3
  refine creg ?_
  refine y (ev_move rfl) rfl ?_
  first
    | refine y (ev_len rfl Try.underlying100) rfl ?_
    | refine y (ev_lenSv rfl Try.underlying100 (by assumption)) rfl ?_
    | refine y (ev_lenV rfl Try.underlying100 (RdV.lenVal (by assumption))) rfl ?_
    | refine y (ev_lenV rfl Try.underlying100 (RdB.lenVal (by assumption))) rfl ?_
  refine y (ev_move rfl) rfl ?_
  refine ynil' (kthn (hK3 _ _ ?_))
  clear hK3
  have hJ1 : ∀ x : Nat, ((x ≤ l.length ∧ (l.take x).any oddB = false) ∧ (x = l.length)) → Sk 19 K2 ([(8, i64 x), (7, i64 l.length), (0, v), (1, oddF)]) (R) := by
    rintro k ⟨hI1, hX1⟩
    refine hK2 _ _ ?_
    obtain ⟨hk, hno⟩ := hI1
    subst hX1; rw [List.take_length] at hno
    refine cseq ?_; intro K4 hK4
    refine creg ?_
    refine y (ev_assign rfl) rfl ?_
    refine ynil' (kthn (hK4 _ _ ?_))
    clear hK4
    refine cret ?_
    first
      | (exfalso; omega; done)
      | (refine kretv Try.results82 rfl (L1 := [] ++ R) (by repeat first | exact .refl | exact .nil | exact .z | apply Pk.s | refine Ge.e ?_ | apply Ge.pick | apply Ge.drop) ?_
         exact ⟨_, ⟨_, rfl, ⟨fun _ => hyes, fun _ => by omega⟩, rfl⟩, rfl⟩)
      | (refine kretv Try.results82 rfl (L1 := [] ++ R) (by repeat first | exact .refl | exact .nil | exact .z | apply Pk.s | refine Ge.e ?_ | apply Ge.pick | apply Ge.drop) ?_
         exact ⟨_, ⟨_, rfl, ⟨fun h => by omega, fun h => by rw [hno] at h; cases h⟩, rfl⟩, rfl⟩)
  clear hK2
  refine cblock ?_
  refine cloop (A := Nat) (fun x => [(8, i64 x), (7, i64 l.length), (0, v), (1, oddF)]) (fun x => R) (fun x => x ≤ l.length ∧ (l.take x).any oddB = false) (fun x => l.length - x) (0) ?_ (by repeat first | exact sub_nil | refine sub_cons rfl ?_ | refine sub_cons' rfl (by simp) ?_) (by repeat first | exact .refl | exact .nil | exact .z | apply Pk.s | refine Ge.e ?_ | apply Ge.pick | apply Ge.drop) ?_
  · exact ⟨Nat.zero_le _, by simp⟩
  rintro k hI1 KL1 hL1
  have hI1o := hI1
  obtain ⟨hk, hno⟩ := hI1
  refine cseq ?_; intro K5 hK5
  refine creg ?_
  refine y (ev_lss rfl rfl) rfl ?_
  refine ynil' (kthn (hK5 _ _ ?_))
  clear hK5
  refine cseq ?_; intro K6 hK6
  refine ccond rfl (fun h18 => ?_) (fun h18 => ?_)
  · (try simp only [decide_eq_true_eq, beq_iff_eq, beq_eq_false_iff_ne, decide_eq_decide, decide_eq_false_iff_not, Bool.not_eq_true', Bool.not_eq_false', Bool.not_eq_true, Bool.not_eq_false, Bool.not_not, ne_eq, Option.isNone_some, Option.isSome_some, Option.isNone_none, Option.isSome_none] at h18)
    refine cskip' (kthn (hK6 _ _ ?_))
    clear hK6
    refine cseq ?_; intro K7 hK7
    refine cblock ?_
    refine cseq ?_; intro K8 hK8
    refine creg ?_
    obtain ⟨y0, hy0⟩ : ∃ y, l[k]? = some y := ⟨_, List.getElem?_eq_getElem (by omega)⟩
    refine y (ev_move rfl) rfl ?_
    refine y (ev_assign rfl) rfl ?_
    refine ynil' (kthn (hK8 _ _ ?_))
    clear hK8
    refine cseq ?_; intro K9 hK9
    refine creg ?_
    refine y (ev_move rfl) rfl ?_
    refine y (ev_move rfl) rfl ?_
    refine y (ev_move rfl) rfl ?_
    refine y (ev_ixV hv rfl rfl Try.underlying100 Try.sizeOf2 (by omega) (by omega)) rfl ?_
    refine y (ev_loadV k hv (by repeat first | exact .refl | exact .nil | exact .z | apply Pk.s | refine Ge.e ?_ | apply Ge.pick | apply Ge.drop) rfl Try.isAgg2 (by simp) (intsV_get hy0)) rfl ?_
    refine ycallFf rfl (bOdd (n := y0)) rfl Try.call67 (by repeat first | exact .nil | exact .z | apply Pk.s | apply Tk.cons) rfl ?_
    rintro v L' ⟨rfl, rfl⟩
    refine ynil' (kthn (hK9 _ _ ?_))
    clear hK9
    refine ccond rfl (fun h27 => ?_) (fun h27 => ?_)
    · (try simp only [decide_eq_true_eq, beq_iff_eq, beq_eq_false_iff_ne, decide_eq_decide, decide_eq_false_iff_not, Bool.not_eq_true', Bool.not_eq_false', Bool.not_eq_true, Bool.not_eq_false, Bool.not_not, ne_eq, Option.isNone_some, Option.isSome_some, Option.isNone_none, Option.isSome_none] at h27)
      have hyes : l.any oddB = true := List.any_eq_true.2 ⟨y0, List.mem_of_getElem? hy0, h27⟩
      refine cseq ?_; intro K10 hK10
      refine creg ?_
      refine y (ev_move rfl) rfl ?_
      refine y (ev_assign rfl) rfl ?_
      refine ynil' (kthn (hK10 _ _ ?_))
      clear hK10
      refine cret (kbr (kthr (kthr (kbr (kthr ?_)))))
      first
        | (exfalso; omega; done)
        | (refine kretv Try.results82 rfl (L1 := [] ++ R) (by repeat first | exact .refl | exact .nil | exact .z | apply Pk.s | refine Ge.e ?_ | apply Ge.pick | apply Ge.drop) ?_
           exact ⟨_, ⟨_, rfl, ⟨fun _ => hyes, fun _ => by omega⟩, rfl⟩, rfl⟩)
        | (refine kretv Try.results82 rfl (L1 := [] ++ R) (by repeat first | exact .refl | exact .nil | exact .z | apply Pk.s | refine Ge.e ?_ | apply Ge.pick | apply Ge.drop) ?_
           exact ⟨_, ⟨_, rfl, ⟨fun h => by omega, fun h => by rw [hno] at h; cases h⟩, rfl⟩, rfl⟩)
    · (try simp only [decide_eq_true_eq, beq_iff_eq, beq_eq_false_iff_ne, decide_eq_decide, decide_eq_false_iff_not, Bool.not_eq_true', Bool.not_eq_false', Bool.not_eq_true, Bool.not_eq_false, Bool.not_not, ne_eq, Option.isNone_some, Option.isSome_some, Option.isNone_none, Option.isSome_none] at h27)
      have hno2 : (l.take (k + 1)).any oddB = false := by rw [take_snoc hy0, List.any_append, hno]; simp [h27]
      refine cskip' (kbn (kthn (hK7 _ _ ?_)))
      clear hK7
      refine creg ?_
      refine y (ev_add rfl rfl) rfl ?_
      rw [show IntKind.i64.wrap ((k:Int) + 1) = ((k+1 : Nat) : Int) by rw [wr (by omega) (by omega)]; rfl]
      refine y (ev_move rfl) rfl ?_
      refine ynil' (kthn ?_)
      exact hL1 (k + 1) (⟨by omega, hno2⟩) (by omega) _ _ (by repeat first | exact sub_nil | refine sub_cons rfl ?_ | refine sub_cons' rfl (by simp) ?_) (by repeat first | exact .refl | exact .nil | exact .z | apply Pk.s | refine Ge.e ?_ | apply Ge.pick | apply Ge.drop)
  · (try simp only [decide_eq_true_eq, beq_iff_eq, beq_eq_false_iff_ne, decide_eq_decide, decide_eq_false_iff_not, Bool.not_eq_true', Bool.not_eq_false', Bool.not_eq_true, Bool.not_eq_false, Bool.not_not, ne_eq, Option.isNone_some, Option.isSome_some, Option.isNone_none, Option.isSome_none] at h18)
    refine cexit (kthx (kthx (kbx (kthn ?_))))
    exact ksub (by repeat first | exact sub_nil | refine sub_cons rfl ?_ | refine sub_cons' rfl (by simp) ?_) (by repeat first | exact .refl | exact .nil | exact .z | apply Pk.s | refine Ge.e ?_ | apply Ge.pick | apply Ge.drop) (hJ1 k ⟨hI1o, by first | trivial | omega⟩)
theorem bContains [Env] {R : List Seg} {v : Value} {l : List Int} (hv : RdV R v l.length (intsV l)) (hll : l.length ≤ 1000) : Con Try.prog 66 [v, oddF] [] R (Is (.bool (l.any oddB)) []) := by
  refine con_enter Try.func66 Try.ntmps66 rfl rfl ?_
  refine cseq ?_; intro K1 hK1
  refine creg ?_
  refine y (ev_assign rfl) rfl ?_
  refine ynil' (kthn (hK1 _ _ ?_))
  clear hK1
  refine cseq ?_; intro K2 hK2
  refine creg ?_
  refine y (ev_move rfl) rfl ?_
  refine y (ev_move rfl) rfl ?_
  refine ycall (bIndex (l := l) ?ix35 ?il35) rfl Try.call82 (by repeat first | exact .nil | exact .z | apply Pk.s | apply Tk.cons) rfl ?_
  case ix35 => exact hv
  case il35 => exact hll
  rintro v L' ⟨r7, rfl, hr7, rfl⟩
  refine y (ev_geq rfl rfl) rfl ?_
  refine y (ev_assign rfl) rfl ?_
  refine ynil' (kthn (hK2 _ _ ?_))
  clear hK2
  refine cret ?_
  first
    | (exfalso; omega; done)
    | (refine kretv Try.results66 rfl (L1 := R) (by repeat first | exact .refl | exact .nil | exact .z | apply Pk.s | refine Ge.e ?_ | apply Ge.pick | apply Ge.drop) ?_
       exact ⟨_, ⟨by first | rfl | (cases hq : l.any oddB <;> simp_all; done), rfl⟩, by first | rfl | (cases hq : l.any oddB <;> simp_all; done)⟩)
theorem bRead [Env] {R : List Seg} {bs : Bytes} {kd ns ts : Int} (hl : bs.length ≤ 1000) (hns : ns ≤ 1000) : Con Try.prog 49 [str bs, i64 kd, i64 ns, i64 ts] [] R
    (fun u L' => ∃ sn st, u = .tuple #[recV (decM bs).1 sn st, .bool (readB bs kd ns ts).2] ∧ RecOk (decM bs).1 sn st ∧ L' = recSegs (decM bs).1 sn st) := by
  refine con_enter Try.func49 Try.ntmps49 rfl rfl ?_
  refine cseq ?_; intro K1 hK1
  refine creg ?_
  refine ya (ac_alloc Try.zeroValue102 rfl) rfl ?_
  rintro v L' ⟨b8, rfl, rfl⟩
  refine y (ev_assign rfl) rfl ?_
  refine ynil' (kthn (hK1 _ _ ?_))
  clear hK1
  refine cseq ?_; intro K2 hK2
  refine creg ?_
  refine y (ev_move rfl) rfl ?_
  refine ya (ac_toBytesY rfl Try.underlying9 Try.underlying23 Try.underlying5) rfl ?_
  rintro v L' ⟨b14, c14, sp14, fr14, rfl, hc14, rfl⟩
  refine ycall (cDecode (bs := bs) ?hb42) rfl Try.call55 (by repeat first | exact .nil | exact .z | apply Pk.s | apply Tk.cons) rfl ?_
  case hb42 => exact rdY_in (by repeat first | exact .z | apply In.s) hc14
  rintro v L' ⟨sn15, st15, rfl, ok15, rfl⟩
  have hrb : (readB bs kd ns ts).2 = (decide ((decM bs).2 = 0) && decide ((decM bs).1.kind = kd) && decide (((decM bs).1.nums.length : Int) = ns) && decide (((decM bs).1.texts.length : Int) = ts) && !(decM bs).1.nums.any oddB) := rfl
  generalize (readB bs kd ns ts).2 = ob at *
  generalize decM bs = de at *
  obtain ⟨rc, er⟩ := de
  dsimp only at ok15 hrb ⊢
  have okn := ok15.n
  have okt := ok15.t
  unfold recV
  have hvt : RdV [svSeg st15 9 (strsV rc.texts)] (svVal st15 rc.texts.length) rc.texts.length (strsV rc.texts) := rdV_sv .z okt
  have hvn : RdV [svSeg sn15 2 (intsV rc.nums)] (svVal sn15 rc.nums.length) rc.nums.length (intsV rc.nums) := rdV_sv .z okn
  refine y (ev_move rfl) rfl ?_
  refine y (ev_extract rfl rfl) rfl ?_
  refine y (ev_extract rfl rfl) rfl ?_
  refine ya (ac_alloc Try.zeroValue102 rfl) rfl ?_
  rintro v L' ⟨b10, rfl, rfl⟩
  refine ya0 (ac_storeAll rfl rfl (by first | exact bytesV_one _ | (simp [Value.oneCell']; done) | (simp only [List.forall_mem_cons, List.not_mem_nil, false_implies, implies_true, svVal_one, and_true, true_and, and_self]; first | done | simp [Value.oneCell'])) Try.sizeOf102 (by repeat first | exact .z | apply Rp.s) (by first | rfl | assumption | (simp [*]; done) | (simp [*]; omega)) (by first | rfl | assumption | (simp [*]; done) | (simp [*]; omega))) ?_
  rintro v L' ⟨rfl, rfl⟩
  refine y (ev_assign rfl) rfl ?_
  refine ynil' (kthn (hK2 _ _ ?_))
  clear hK2
  refine cseq ?_; intro K3 hK3
  refine cdraw 30 [(0, true), (1, true), (2, true), (3, true), (4, true), (5, true), (6, true), (7, true), (8, true), (9, true), (10, true), (11, true), (12, true), (13, true), (14, true), (15, true), (16, true), (17, true), (18, true), (19, true), (20, true), (21, true), (22, true), (23, true), (24, true), (25, true), (26, false), (27, true), (28, true), (29, false)] ([sc b10 [i64 rc.kind, svVal sn15 rc.nums.length, svVal st15 rc.texts.length] 102, svSeg sn15 2 (intsV rc.nums), svSeg st15 9 (strsV rc.texts)] ++ R) Try.mixed (by kernel_rfl) (by repeat first | exact .refl | exact .nil | exact .z | apply Pk.s | refine Ge.e ?_ | apply Ge.pick | apply Ge.drop) ?_
  refine hr rfl (ev_loadN (u := [i64 rc.kind, svVal sn15 rc.nums.length, svVal st15 rc.texts.length]) rfl Try.isAgg102 Try.sizeOf102 (by repeat first | exact .z | apply In.s) rfl rfl) rfl ?_
  refine hr rfl (ev_move rfl) rfl ?_
  refine hr rfl (ev_eql rfl rfl) rfl ?_
  refine hr rfl (ev_move rfl) rfl ?_
  refine hsplit 21 rfl (fun h53 => ?_) (fun h53 => ?_)
  · (try simp only [decide_eq_true_eq, beq_iff_eq, beq_eq_false_iff_ne, decide_eq_decide, decide_eq_false_iff_not, Bool.not_eq_true', Bool.not_eq_false', Bool.not_eq_true, Bool.not_eq_false, Bool.not_not, ne_eq, Option.isNone_some, Option.isSome_some, Option.isNone_none, Option.isSome_none] at h53)
    refine hr1 rfl rfl rfl (ev_fieldAddr 0 rfl Try.underlying102 rfl Try.sizeOf3) rfl ?_
    refine hr1 rfl rfl rfl (ev_load rfl Try.isAgg3 (by repeat first | exact .z | apply In.s) rfl) rfl ?_
    refine hr1 rfl rfl rfl (ev_move rfl) rfl ?_
    refine hr1 rfl rfl rfl (ev_eql rfl rfl) rfl ?_
    refine hr rfl (ev_pick1 rfl rfl) rfl ?_
    refine hr rfl (ev_move rfl) rfl ?_
    refine hsplit 27 rfl (fun h60 => ?_) (fun h60 => ?_)
    · (try simp only [decide_eq_true_eq, beq_iff_eq, beq_eq_false_iff_ne, decide_eq_decide, decide_eq_false_iff_not, Bool.not_eq_true', Bool.not_eq_false', Bool.not_eq_true, Bool.not_eq_false, Bool.not_not, ne_eq, Option.isNone_some, Option.isSome_some, Option.isNone_none, Option.isSome_none] at h60)
      refine hr1 rfl rfl rfl (ev_fieldAddr 1 rfl Try.underlying102 rfl Try.sizeOf100) rfl ?_
      refine hr1 rfl rfl rfl (ev_load rfl Try.isAgg100 (by repeat first | exact .z | apply In.s) rfl) rfl ?_
      first
        | refine hr1 rfl rfl rfl (ev_len rfl Try.underlying100) rfl ?_
        | refine hr1 rfl rfl rfl (ev_lenSv rfl Try.underlying100 (by assumption)) rfl ?_
        | refine hr1 rfl rfl rfl (ev_lenV rfl Try.underlying100 (RdV.lenVal (by assumption))) rfl ?_
        | refine hr1 rfl rfl rfl (ev_lenV rfl Try.underlying100 (RdB.lenVal (by assumption))) rfl ?_
      refine hr1 rfl rfl rfl (ev_move rfl) rfl ?_
      refine hr1 rfl rfl rfl (ev_eql rfl rfl) rfl ?_
      refine hr rfl (ev_pick1 rfl rfl) rfl ?_
      refine hr rfl (ev_move rfl) rfl ?_
      refine hsplit 34 rfl (fun h68 => ?_) (fun h68 => ?_)
      · (try simp only [decide_eq_true_eq, beq_iff_eq, beq_eq_false_iff_ne, decide_eq_decide, decide_eq_false_iff_not, Bool.not_eq_true', Bool.not_eq_false', Bool.not_eq_true, Bool.not_eq_false, Bool.not_not, ne_eq, Option.isNone_some, Option.isSome_some, Option.isNone_none, Option.isSome_none] at h68)
        refine hr1 rfl rfl rfl (ev_fieldAddr 2 rfl Try.underlying102 rfl Try.sizeOf48) rfl ?_
        refine hr1 rfl rfl rfl (ev_load rfl Try.isAgg48 (by repeat first | exact .z | apply In.s) rfl) rfl ?_
        first
          | refine hr1 rfl rfl rfl (ev_len rfl Try.underlying48) rfl ?_
          | refine hr1 rfl rfl rfl (ev_lenSv rfl Try.underlying48 (by assumption)) rfl ?_
          | refine hr1 rfl rfl rfl (ev_lenV rfl Try.underlying48 (RdV.lenVal (by assumption))) rfl ?_
          | refine hr1 rfl rfl rfl (ev_lenV rfl Try.underlying48 (RdB.lenVal (by assumption))) rfl ?_
        refine hr1 rfl rfl rfl (ev_move rfl) rfl ?_
        refine hr1 rfl rfl rfl (ev_eql rfl rfl) rfl ?_
        refine hr rfl (ev_pick1 rfl rfl) rfl ?_
        refine hr rfl (ev_move rfl) rfl ?_
        refine hsplit 41 rfl (fun h76 => ?_) (fun h76 => ?_)
        · (try simp only [decide_eq_true_eq, beq_iff_eq, beq_eq_false_iff_ne, decide_eq_decide, decide_eq_false_iff_not, Bool.not_eq_true', Bool.not_eq_false', Bool.not_eq_true, Bool.not_eq_false, Bool.not_not, ne_eq, Option.isNone_some, Option.isSome_some, Option.isNone_none, Option.isSome_none] at h76)
          refine hr1 rfl rfl rfl (ev_fieldAddr 1 rfl Try.underlying102 rfl Try.sizeOf100) rfl ?_
          refine hr1 rfl rfl rfl (ev_load rfl Try.isAgg100 (by repeat first | exact .z | apply In.s) rfl) rfl ?_
          refine hcall1 rfl rfl rfl (bContains (l := rc.nums) ?ix79 ?il79) rfl Try.call66 (by repeat first | exact .nil | exact .z | apply Pk.s | apply Tk.cons) rfl ?_
          case ix79 => exact rdV_sv (by repeat first | exact .z | apply In.s) okn
          case il79 => omega
          rintro v L' ⟨rfl, rfl⟩; refine ⟨(by repeat first | exact .refl | exact .nil | exact .z | apply Pk.s | refine Ge.e ?_ | apply Ge.pick | apply Ge.drop), ?_⟩
          refine hr1 rfl rfl rfl (ev_not rfl) rfl ?_
          refine hr rfl (ev_pick1 rfl rfl) rfl ?_
          refine haN rfl (ac_storeAll rfl rfl (by first | exact bytesV_one _ | (simp [Value.oneCell']; done) | (simp only [List.forall_mem_cons, List.not_mem_nil, false_implies, implies_true, svVal_one, and_true, true_and, and_self]; first | done | simp [Value.oneCell'])) Try.sizeOf102 (by repeat first | exact .z | apply Rp.s) (by first | rfl | assumption | (simp [*]; done) | (simp [*]; omega)) (by first | rfl | assumption | (simp [*]; done) | (simp [*]; omega))) ?_
          rintro v L' ⟨rfl, rfl⟩; refine ⟨(by repeat first | exact .refl | exact .nil | exact .z | apply Pk.s | refine Ge.e ?_ | apply Ge.pick | apply Ge.drop), ?_⟩
          refine hnil ?_
          refine y (ev_assign rfl) rfl ?_
          refine hnoP' (kthn (hK3 _ _ ?_))
          clear hK3
          refine cret ?_
          first
            | (exfalso; omega; done)
            | (refine kretct Try.results49 rfl rfl Try.isAgg102 Try.sizeOf102 (by repeat first | exact .z | apply In.s) (rfl) (L1 := [svSeg sn15 2 (intsV rc.nums), svSeg st15 9 (strsV rc.texts)] ++ R) (by repeat first | exact .refl | exact .nil | exact .z | apply Pk.s | refine Ge.e ?_ | apply Ge.pick | apply Ge.drop) ?_
               exact ⟨_, ⟨sn15, st15, by rw [hrb]; first | (rw [decide_eq_false (show ¬ er = 0 by assumption)]; rfl) | (rw [decide_eq_true (show er = 0 by assumption), decide_eq_false (show ¬ rc.kind = kd by assumption)]; rfl) | (rw [decide_eq_true (show er = 0 by assumption), decide_eq_true (show rc.kind = kd by assumption), decide_eq_false (show ¬ (rc.nums.length : Int) = ns by assumption)]; rfl) | (rw [decide_eq_true (show er = 0 by assumption), decide_eq_true (show rc.kind = kd by assumption), decide_eq_true (show (rc.nums.length : Int) = ns by assumption), decide_eq_false (show ¬ (rc.texts.length : Int) = ts by assumption)]; rfl) | (rw [decide_eq_true (show er = 0 by assumption), decide_eq_true (show rc.kind = kd by assumption), decide_eq_true (show (rc.nums.length : Int) = ns by assumption), decide_eq_true (show (rc.texts.length : Int) = ts by assumption)]; rfl), ok15, rfl⟩, rfl⟩)
        · (try simp only [decide_eq_true_eq, beq_iff_eq, beq_eq_false_iff_ne, decide_eq_decide, decide_eq_false_iff_not, Bool.not_eq_true', Bool.not_eq_false', Bool.not_eq_true, Bool.not_eq_false, Bool.not_not, ne_eq, Option.isNone_some, Option.isSome_some, Option.isNone_none, Option.isSome_none] at h76)
          refine hr0 rfl rfl rfl rfl rfl ?_
          refine hr0 rfl rfl rfl rfl rfl ?_
          refine ha0 rfl rfl rfl rfl rfl (by repeat first | exact .refl | exact .nil | exact .z | apply Pk.s | refine Ge.e ?_ | apply Ge.pick | apply Ge.drop) ?_
          refine hr0 rfl rfl rfl rfl rfl ?_
          refine hr rfl (ev_pick0 rfl rfl) rfl ?_
          refine haN rfl (ac_storeAll rfl rfl (by first | exact bytesV_one _ | (simp [Value.oneCell']; done) | (simp only [List.forall_mem_cons, List.not_mem_nil, false_implies, implies_true, svVal_one, and_true, true_and, and_self]; first | done | simp [Value.oneCell'])) Try.sizeOf102 (by repeat first | exact .z | apply Rp.s) (by first | rfl | assumption | (simp [*]; done) | (simp [*]; omega)) (by first | rfl | assumption | (simp [*]; done) | (simp [*]; omega))) ?_
          rintro v L' ⟨rfl, rfl⟩; refine ⟨(by repeat first | exact .refl | exact .nil | exact .z | apply Pk.s | refine Ge.e ?_ | apply Ge.pick | apply Ge.drop), ?_⟩
          refine hnil ?_
          refine y (ev_assign rfl) rfl ?_
          refine hnoP' (kthn (hK3 _ _ ?_))
          clear hK3
          refine cret ?_
          first
            | (exfalso; omega; done)
            | (refine kretct Try.results49 rfl rfl Try.isAgg102 Try.sizeOf102 (by repeat first | exact .z | apply In.s) (rfl) (L1 := [svSeg sn15 2 (intsV rc.nums), svSeg st15 9 (strsV rc.texts)] ++ R) (by repeat first | exact .refl | exact .nil | exact .z | apply Pk.s | refine Ge.e ?_ | apply Ge.pick | apply Ge.drop) ?_
               exact ⟨_, ⟨sn15, st15, by rw [hrb]; first | (rw [decide_eq_false (show ¬ er = 0 by assumption)]; rfl) | (rw [decide_eq_true (show er = 0 by assumption), decide_eq_false (show ¬ rc.kind = kd by assumption)]; rfl) | (rw [decide_eq_true (show er = 0 by assumption), decide_eq_true (show rc.kind = kd by assumption), decide_eq_false (show ¬ (rc.nums.length : Int) = ns by assumption)]; rfl) | (rw [decide_eq_true (show er = 0 by assumption), decide_eq_true (show rc.kind = kd by assumption), decide_eq_true (show (rc.nums.length : Int) = ns by assumption), decide_eq_false (show ¬ (rc.texts.length : Int) = ts by assumption)]; rfl) | (rw [decide_eq_true (show er = 0 by assumption), decide_eq_true (show rc.kind = kd by assumption), decide_eq_true (show (rc.nums.length : Int) = ns by assumption), decide_eq_true (show (rc.texts.length : Int) = ts by assumption)]; rfl), ok15, rfl⟩, rfl⟩)
      · (try simp only [decide_eq_true_eq, beq_iff_eq, beq_eq_false_iff_ne, decide_eq_decide, decide_eq_false_iff_not, Bool.not_eq_true', Bool.not_eq_false', Bool.not_eq_true, Bool.not_eq_false, Bool.not_not, ne_eq, Option.isNone_some, Option.isSome_some, Option.isNone_none, Option.isSome_none] at h68)
        refine hr0 rfl rfl rfl rfl rfl ?_
        refine hr0 rfl rfl rfl rfl rfl ?_
        refine hr0 rfl rfl rfl rfl rfl ?_
        refine hr0 rfl rfl rfl rfl rfl ?_
        refine hr0 rfl rfl rfl rfl rfl ?_
        refine hr rfl (ev_pick0 rfl rfl) rfl ?_
        refine hr rfl (ev_move rfl) rfl ?_
        refine hr0 rfl rfl rfl rfl rfl ?_
        refine hr0 rfl rfl rfl rfl rfl ?_
        refine ha0 rfl rfl rfl rfl rfl (by repeat first | exact .refl | exact .nil | exact .z | apply Pk.s | refine Ge.e ?_ | apply Ge.pick | apply Ge.drop) ?_
        refine hr0 rfl rfl rfl rfl rfl ?_
        refine hr rfl (ev_pick0 rfl rfl) rfl ?_
        refine haN rfl (ac_storeAll rfl rfl (by first | exact bytesV_one _ | (simp [Value.oneCell']; done) | (simp only [List.forall_mem_cons, List.not_mem_nil, false_implies, implies_true, svVal_one, and_true, true_and, and_self]; first | done | simp [Value.oneCell'])) Try.sizeOf102 (by repeat first | exact .z | apply Rp.s) (by first | rfl | assumption | (simp [*]; done) | (simp [*]; omega)) (by first | rfl | assumption | (simp [*]; done) | (simp [*]; omega))) ?_
        rintro v L' ⟨rfl, rfl⟩; refine ⟨(by repeat first | exact .refl | exact .nil | exact .z | apply Pk.s | refine Ge.e ?_ | apply Ge.pick | apply Ge.drop), ?_⟩
        refine hnil ?_
        refine y (ev_assign rfl) rfl ?_
        refine hnoP' (kthn (hK3 _ _ ?_))
        clear hK3
        refine cret ?_
        first
          | (exfalso; omega; done)
          | (refine kretct Try.results49 rfl rfl Try.isAgg102 Try.sizeOf102 (by repeat first | exact .z | apply In.s) (rfl) (L1 := [svSeg sn15 2 (intsV rc.nums), svSeg st15 9 (strsV rc.texts)] ++ R) (by repeat first | exact .refl | exact .nil | exact .z | apply Pk.s | refine Ge.e ?_ | apply Ge.pick | apply Ge.drop) ?_
             exact ⟨_, ⟨sn15, st15, by rw [hrb]; first | (rw [decide_eq_false (show ¬ er = 0 by assumption)]; rfl) | (rw [decide_eq_true (show er = 0 by assumption), decide_eq_false (show ¬ rc.kind = kd by assumption)]; rfl) | (rw [decide_eq_true (show er = 0 by assumption), decide_eq_true (show rc.kind = kd by assumption), decide_eq_false (show ¬ (rc.nums.length : Int) = ns by assumption)]; rfl) | (rw [decide_eq_true (show er = 0 by assumption), decide_eq_true (show rc.kind = kd by assumption), decide_eq_true (show (rc.nums.length : Int) = ns by assumption), decide_eq_false (show ¬ (rc.texts.length : Int) = ts by assumption)]; rfl) | (rw [decide_eq_true (show er = 0 by assumption), decide_eq_true (show rc.kind = kd by assumption), decide_eq_true (show (rc.nums.length : Int) = ns by assumption), decide_eq_true (show (rc.texts.length : Int) = ts by assumption)]; rfl), ok15, rfl⟩, rfl⟩)
    · (try simp only [decide_eq_true_eq, beq_iff_eq, beq_eq_false_iff_ne, decide_eq_decide, decide_eq_false_iff_not, Bool.not_eq_true', Bool.not_eq_false', Bool.not_eq_true, Bool.not_eq_false, Bool.not_not, ne_eq, Option.isNone_some, Option.isSome_some, Option.isNone_none, Option.isSome_none] at h60)
      refine hr0 rfl rfl rfl rfl rfl ?_
      refine hr0 rfl rfl rfl rfl rfl ?_
      refine hr0 rfl rfl rfl rfl rfl ?_
      refine hr0 rfl rfl rfl rfl rfl ?_
      refine hr0 rfl rfl rfl rfl rfl ?_
      refine hr rfl (ev_pick0 rfl rfl) rfl ?_
      refine hr rfl (ev_move rfl) rfl ?_
      refine hr0 rfl rfl rfl rfl rfl ?_
      refine hr0 rfl rfl rfl rfl rfl ?_
      refine hr0 rfl rfl rfl rfl rfl ?_
      refine hr0 rfl rfl rfl rfl rfl ?_
      refine hr0 rfl rfl rfl rfl rfl ?_
      refine hr rfl (ev_pick0 rfl rfl) rfl ?_
      refine hr rfl (ev_move rfl) rfl ?_
      refine hr0 rfl rfl rfl rfl rfl ?_
      refine hr0 rfl rfl rfl rfl rfl ?_
      refine ha0 rfl rfl rfl rfl rfl (by repeat first | exact .refl | exact .nil | exact .z | apply Pk.s | refine Ge.e ?_ | apply Ge.pick | apply Ge.drop) ?_
      refine hr0 rfl rfl rfl rfl rfl ?_
      refine hr rfl (ev_pick0 rfl rfl) rfl ?_
      refine haN rfl (ac_storeAll rfl rfl (by first | exact bytesV_one _ | (simp [Value.oneCell']; done) | (simp only [List.forall_mem_cons, List.not_mem_nil, false_implies, implies_true, svVal_one, and_true, true_and, and_self]; first | done | simp [Value.oneCell'])) Try.sizeOf102 (by repeat first | exact .z | apply Rp.s) (by first | rfl | assumption | (simp [*]; done) | (simp [*]; omega)) (by first | rfl | assumption | (simp [*]; done) | (simp [*]; omega))) ?_
      rintro v L' ⟨rfl, rfl⟩; refine ⟨(by repeat first | exact .refl | exact .nil | exact .z | apply Pk.s | refine Ge.e ?_ | apply Ge.pick | apply Ge.drop), ?_⟩
      refine hnil ?_
      refine y (ev_assign rfl) rfl ?_
      refine hnoP' (kthn (hK3 _ _ ?_))
      clear hK3
      refine cret ?_
      first
        | (exfalso; omega; done)
        | (refine kretct Try.results49 rfl rfl Try.isAgg102 Try.sizeOf102 (by repeat first | exact .z | apply In.s) (rfl) (L1 := [svSeg sn15 2 (intsV rc.nums), svSeg st15 9 (strsV rc.texts)] ++ R) (by repeat first | exact .refl | exact .nil | exact .z | apply Pk.s | refine Ge.e ?_ | apply Ge.pick | apply Ge.drop) ?_
           exact ⟨_, ⟨sn15, st15, by rw [hrb]; first | (rw [decide_eq_false (show ¬ er = 0 by assumption)]; rfl) | (rw [decide_eq_true (show er = 0 by assumption), decide_eq_false (show ¬ rc.kind = kd by assumption)]; rfl) | (rw [decide_eq_true (show er = 0 by assumption), decide_eq_true (show rc.kind = kd by assumption), decide_eq_false (show ¬ (rc.nums.length : Int) = ns by assumption)]; rfl) | (rw [decide_eq_true (show er = 0 by assumption), decide_eq_true (show rc.kind = kd by assumption), decide_eq_true (show (rc.nums.length : Int) = ns by assumption), decide_eq_false (show ¬ (rc.texts.length : Int) = ts by assumption)]; rfl) | (rw [decide_eq_true (show er = 0 by assumption), decide_eq_true (show rc.kind = kd by assumption), decide_eq_true (show (rc.nums.length : Int) = ns by assumption), decide_eq_true (show (rc.texts.length : Int) = ts by assumption)]; rfl), ok15, rfl⟩, rfl⟩)
  · (try simp only [decide_eq_true_eq, beq_iff_eq, beq_eq_false_iff_ne, decide_eq_decide, decide_eq_false_iff_not, Bool.not_eq_true', Bool.not_eq_false', Bool.not_eq_true, Bool.not_eq_false, Bool.not_not, ne_eq, Option.isNone_some, Option.isSome_some, Option.isNone_none, Option.isSome_none] at h53)
    refine hr0 rfl rfl rfl rfl rfl ?_
    refine hr0 rfl rfl rfl rfl rfl ?_
    refine hr0 rfl rfl rfl rfl rfl ?_
    refine hr0 rfl rfl rfl rfl rfl ?_
    refine hr rfl (ev_pick0 rfl rfl) rfl ?_
    refine hr rfl (ev_move rfl) rfl ?_
    refine hr0 rfl rfl rfl rfl rfl ?_
    refine hr0 rfl rfl rfl rfl rfl ?_
    refine hr0 rfl rfl rfl rfl rfl ?_
    refine hr0 rfl rfl rfl rfl rfl ?_
    refine hr0 rfl rfl rfl rfl rfl ?_
    refine hr rfl (ev_pick0 rfl rfl) rfl ?_
    refine hr rfl (ev_move rfl) rfl ?_
    refine hr0 rfl rfl rfl rfl rfl ?_
    refine hr0 rfl rfl rfl rfl rfl ?_
    refine hr0 rfl rfl rfl rfl rfl ?_
    refine hr0 rfl rfl rfl rfl rfl ?_
    refine hr0 rfl rfl rfl rfl rfl ?_
    refine hr rfl (ev_pick0 rfl rfl) rfl ?_
    refine hr rfl (ev_move rfl) rfl ?_
    refine hr0 rfl rfl rfl rfl rfl ?_
    refine hr0 rfl rfl rfl rfl rfl ?_
    refine ha0 rfl rfl rfl rfl rfl (by repeat first | exact .refl | exact .nil | exact .z | apply Pk.s | refine Ge.e ?_ | apply Ge.pick | apply Ge.drop) ?_
    refine hr0 rfl rfl rfl rfl rfl ?_
    refine hr rfl (ev_pick0 rfl rfl) rfl ?_
    refine haN rfl (ac_storeAll rfl rfl (by first | exact bytesV_one _ | (simp [Value.oneCell']; done) | (simp only [List.forall_mem_cons, List.not_mem_nil, false_implies, implies_true, svVal_one, and_true, true_and, and_self]; first | done | simp [Value.oneCell'])) Try.sizeOf102 (by repeat first | exact .z | apply Rp.s) (by first | rfl | assumption | (simp [*]; done) | (simp [*]; omega)) (by first | rfl | assumption | (simp [*]; done) | (simp [*]; omega))) ?_
    rintro v L' ⟨rfl, rfl⟩; refine ⟨(by repeat first | exact .refl | exact .nil | exact .z | apply Pk.s | refine Ge.e ?_ | apply Ge.pick | apply Ge.drop), ?_⟩
    refine hnil ?_
    refine y (ev_assign rfl) rfl ?_
    refine hnoP' (kthn (hK3 _ _ ?_))
    clear hK3
    refine cret ?_
    first
      | (exfalso; omega; done)
      | (refine kretct Try.results49 rfl rfl Try.isAgg102 Try.sizeOf102 (by repeat first | exact .z | apply In.s) (rfl) (L1 := [svSeg sn15 2 (intsV rc.nums), svSeg st15 9 (strsV rc.texts)] ++ R) (by repeat first | exact .refl | exact .nil | exact .z | apply Pk.s | refine Ge.e ?_ | apply Ge.pick | apply Ge.drop) ?_
         exact ⟨_, ⟨sn15, st15, by rw [hrb]; first | (rw [decide_eq_false (show ¬ er = 0 by assumption)]; rfl) | (rw [decide_eq_true (show er = 0 by assumption), decide_eq_false (show ¬ rc.kind = kd by assumption)]; rfl) | (rw [decide_eq_true (show er = 0 by assumption), decide_eq_true (show rc.kind = kd by assumption), decide_eq_false (show ¬ (rc.nums.length : Int) = ns by assumption)]; rfl) | (rw [decide_eq_true (show er = 0 by assumption), decide_eq_true (show rc.kind = kd by assumption), decide_eq_true (show (rc.nums.length : Int) = ns by assumption), decide_eq_false (show ¬ (rc.texts.length : Int) = ts by assumption)]; rfl) | (rw [decide_eq_true (show er = 0 by assumption), decide_eq_true (show rc.kind = kd by assumption), decide_eq_true (show (rc.nums.length : Int) = ns by assumption), decide_eq_true (show (rc.texts.length : Int) = ts by assumption)]; rfl), ok15, rfl⟩, rfl⟩)
end W
end Go.Proofs
