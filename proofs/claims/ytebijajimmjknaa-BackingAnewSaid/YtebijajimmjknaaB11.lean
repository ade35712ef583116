/- A part of the proof: contracts and plain lemmas, each without conditions beyond those that it names. -/
import Derived.Test.YtebijajimmjknaaB10
set_option linter.unusedVariables false
set_option linter.unusedSimpArgs false
set_option linter.constructorNameAsVariable false
namespace Go.Proofs
open Go Go.Sl
namespace W
set_option linter.unusedVariables false
def aboveB (a b c d : Int) : Bool := if a ≠ c then decide (c < a) else decide (d < b)
theorem bAbove [Env] {R : List Seg} {a b c d : Int} : Con Try.prog 26 [.agg #[i64 a, i64 b], .agg #[i64 c, i64 d]] [] R (Is (.bool (aboveB a b c d)) []) := by
  refine con_enter Try.func26 Try.ntmps26 rfl rfl ?_
  refine cseq ?_; intro K1 hK1
  refine creg ?_
  refine ya (ac_box (vs := [i64 a, i64 b]) rfl rfl) rfl ?_
  rintro v L' ⟨b2, rfl, rfl⟩
  refine ya (ac_box (vs := [i64 c, i64 d]) rfl rfl) rfl ?_
  rintro v L' ⟨b3, rfl, rfl⟩
  refine y (ev_assign rfl) rfl ?_
  refine ynil' (kthn (hK1 _ _ ?_))
  clear hK1
  refine cseq ?_; intro K2 hK2
  refine cseq ?_; intro K3 hK3
  refine creg ?_
  refine y (ev_fieldAddr 0 rfl Try.underlying50 rfl Try.sizeOf2) rfl ?_
  refine y (ev_load rfl Try.isAgg2 (by repeat first | exact .z | apply In.s) rfl) rfl ?_
  refine y (ev_fieldAddr 0 rfl Try.underlying50 rfl Try.sizeOf2) rfl ?_
  refine y (ev_load rfl Try.isAgg2 (by repeat first | exact .z | apply In.s) rfl) rfl ?_
  refine y (ev_neq rfl rfl) rfl ?_
  refine ynil' (kthn (hK3 _ _ ?_))
  clear hK3
  refine ccond rfl (fun h9 => ?_) (fun h9 => ?_)
  · (try simp only [decide_eq_true_eq, beq_iff_eq, beq_eq_false_iff_ne, decide_eq_decide, decide_eq_false_iff_not, Bool.not_eq_true', Bool.not_eq_false', Bool.not_eq_true, Bool.not_eq_false, Bool.not_not, ne_eq, Option.isNone_some, Option.isSome_some, Option.isNone_none, Option.isSome_none] at h9)
    have hab : aboveB a b c d = decide (c < a) := by unfold aboveB; rw [if_pos (by omega)]
    refine cseq ?_; intro K4 hK4
    refine creg ?_
    refine y (ev_fieldAddr 0 rfl Try.underlying50 rfl Try.sizeOf2) rfl ?_
    refine y (ev_load rfl Try.isAgg2 (by repeat first | exact .z | apply In.s) rfl) rfl ?_
    refine y (ev_fieldAddr 0 rfl Try.underlying50 rfl Try.sizeOf2) rfl ?_
    refine y (ev_load rfl Try.isAgg2 (by repeat first | exact .z | apply In.s) rfl) rfl ?_
    refine y (ev_gtr rfl rfl) rfl ?_
    refine y (ev_assign rfl) rfl ?_
    refine ynil' (kthn (hK4 _ _ ?_))
    clear hK4
    refine cret (kthr ?_)
    first
      | (exfalso; omega; done)
      | (refine kretv Try.results26 rfl (L1 := [] ++ R) (by repeat first | exact .refl | exact .nil | exact .z | apply Pk.s | refine Ge.e ?_ | apply Ge.pick | apply Ge.drop) ?_
         exact ⟨_, ⟨by rw [hab], rfl⟩, rfl⟩)
  · (try simp only [decide_eq_true_eq, beq_iff_eq, beq_eq_false_iff_ne, decide_eq_decide, decide_eq_false_iff_not, Bool.not_eq_true', Bool.not_eq_false', Bool.not_eq_true, Bool.not_eq_false, Bool.not_not, ne_eq, Option.isNone_some, Option.isSome_some, Option.isNone_none, Option.isSome_none] at h9)
    have hab : aboveB a b c d = decide (d < b) := by unfold aboveB; rw [if_neg (by omega)]
    refine cskip' (kthn (hK2 _ _ ?_))
    clear hK2
    refine cseq ?_; intro K5 hK5
    refine creg ?_
    refine y (ev_fieldAddr 1 rfl Try.underlying50 rfl Try.sizeOf2) rfl ?_
    refine y (ev_load rfl Try.isAgg2 (by repeat first | exact .z | apply In.s) rfl) rfl ?_
    refine y (ev_fieldAddr 1 rfl Try.underlying50 rfl Try.sizeOf2) rfl ?_
    refine y (ev_load rfl Try.isAgg2 (by repeat first | exact .z | apply In.s) rfl) rfl ?_
    refine y (ev_gtr rfl rfl) rfl ?_
    refine y (ev_assign rfl) rfl ?_
    refine ynil' (kthn (hK5 _ _ ?_))
    clear hK5
    refine cret ?_
    first
      | (exfalso; omega; done)
      | (refine kretv Try.results26 rfl (L1 := [] ++ R) (by repeat first | exact .refl | exact .nil | exact .z | apply Pk.s | refine Ge.e ?_ | apply Ge.pick | apply Ge.drop) ?_
         exact ⟨_, ⟨by rw [hab], rfl⟩, rfl⟩)
theorem above_old {A : StA} {m : MsgM} (h : aboveB m.epoch m.seq (A.getB m.block).v0 (A.getB m.block).v1 = true) : ¬ A.old m := by
  unfold aboveB at h
  unfold StA.old
  split at h
  · simp only [decide_eq_true_eq] at h; omega
  · simp only [decide_eq_true_eq] at h; omega
theorem msg_tn {m : MsgM} {k : Nat} (h : k < 4) : m.cells[7 + k]? = some (i64 ((msgT m).getD k 0)) := by
  match k, h with
  | 0, _ => rfl
  | 1, _ => rfl
  | 2, _ => rfl
  | 3, _ => rfl
  | k + 4, h => omega
theorem lawTable [Env] {R : List Seg} {bv : Int} {lv : Value} {l : List MsgM} (hb : 0 ≤ bv ∧ bv ≤ 255) (hv : RdV R lv l.length (msgsV l)) :
    Con Try.prog 6 [.int .u8 bv, lv] [] R (Is (.bool true) []) := by
  have hvl := hv.lenVal
  refine con_enter Try.func6 Try.ntmps6 rfl rfl ?_
  refine cseq ?_; intro K1 hK1
  refine creg ?_
  refine y (ev_assign rfl) rfl ?_
  refine ynil' (kthn (hK1 _ _ ?_))
  clear hK1
  refine cseq ?_; intro K2 hK2
  refine cseq ?_; intro K3 hK3
  refine creg ?_
  refine ycall (bAwake) rfl Try.call20 (by repeat first | exact .nil | exact .z | apply Pk.s | apply Tk.cons) rfl ?_
  rintro v L' ⟨rfl, rfl⟩
  skip
  · skip
    refine y (ev_not rfl) rfl ?_
    refine ynil' (kthn (hK3 _ _ ?_))
    clear hK3
    refine ccond0 rfl ?_
    refine cskip' (kthn (hK2 _ _ ?_))
    clear hK2
    refine cseq ?_; intro K4 hK4
    refine creg ?_
    refine y (ev_move rfl) rfl ?_
    refine ycall (bNewG ?bl26) rfl Try.call21 (by repeat first | exact .nil | exact .z | apply Pk.s | apply Tk.cons) rfl ?_
    case bl26 => exact hb
    rintro v L' ⟨X23, hX23, rfl, rfl⟩
    obtain ⟨n1, n32⟩ := nBl_le bv
    generalize hn0 : nBl bv = n at *
    generalize Dev.new (2 + 2 * n) = D0 at *
    refine y (ev_move rfl) rfl ?_
    refine y (ev_extract rfl rfl) rfl ?_
    refine y (ev_extract rfl rfl) rfl ?_
    refine y (ev_extract rfl rfl) rfl ?_
    refine y (ev_assign rfl) rfl ?_
    refine y (ev_assign rfl) rfl ?_
    refine y (ev_assign rfl) rfl ?_
    refine ynil' (kthn (hK4 _ _ ?_))
    clear hK4
    refine cseq ?_; intro K5 hK5
    refine cseq ?_; intro K6 hK6
    refine creg ?_
    refine y (ev_move rfl) rfl ?_
    skip
    · skip
      refine y (ev_eqlPnil rfl rfl Try.underlying42) rfl ?_
      refine ynil' (kthn (hK6 _ _ ?_))
      clear hK6
      refine ccond0 rfl ?_
      refine cskip' (kthn (hK5 _ _ ?_))
      clear hK5
      refine cseq ?_; intro K7 hK7
      refine cseq ?_; intro K8 hK8
      refine creg ?_
      refine y (ev_assign rfl) rfl ?_
      refine ynil' (kthn (hK8 _ _ ?_))
      clear hK8
      refine cblock ?_
      refine cloop (A := Nat × Dev) (fun x => [(8, i64 x.1), (6, ptr X23.s), (7, i64 n), (1, lv)]) (fun x => [stG X23 x.2 n] ++ R) (fun x => SGood X23.ps x.2 n x.1 ∧ x.1 ≤ l.length ∧ x.1 ≤ 60) (fun x => 60 - x.1) ((0, D0)) ?_ (by repeat first | exact sub_nil | refine sub_cons rfl ?_ | refine sub_cons' rfl (by simp) ?_) (by repeat first | exact .refl | exact .nil | exact .z | apply Pk.s | refine Ge.e ?_ | apply Ge.pick | apply Ge.drop) ?_
      · exact ⟨hX23, Nat.zero_le _, Nat.zero_le _⟩
      rintro ⟨z, D⟩ hI1 KL1 hL1
      obtain ⟨hG, hz1, hz2⟩ := hI1; dsimp only at hG hz1 hz2 ⊢; obtain ⟨A, hA⟩ : ∃ A, absS D n = A := ⟨_, rfl⟩; have htl : A.tab.length = 4 := by rw [← hA]; exact hG.wf.tab
      have hAn : A.bs.length = n := by rw [← hA]; exact openS_bs
      refine cseq ?_; intro K9 hK9
      refine cseq ?_; intro K10 hK10
      refine creg ?_
      refine y (ev_move rfl) rfl ?_
      refine y (ev_move rfl) rfl ?_
      first
        | refine y (ev_len rfl Try.underlying41) rfl ?_
        | refine y (ev_lenSv rfl Try.underlying41 (by assumption)) rfl ?_
        | refine y (ev_lenV rfl Try.underlying41 (RdV.lenVal (by assumption))) rfl ?_
        | refine y (ev_lenV rfl Try.underlying41 (RdB.lenVal (by assumption))) rfl ?_
      refine y (ev_lss rfl rfl) rfl ?_
      refine y (ev_move rfl) rfl ?_
      refine ysplit 33 rfl (fun h42 => ?_) (fun h42 => ?_)
      · (try simp only [decide_eq_true_eq, beq_iff_eq, beq_eq_false_iff_ne, decide_eq_decide, decide_eq_false_iff_not, Bool.not_eq_true', Bool.not_eq_false', Bool.not_eq_true, Bool.not_eq_false, Bool.not_not, ne_eq, Option.isNone_some, Option.isSome_some, Option.isNone_none, Option.isSome_none] at h42)
        refine yg1 rfl rfl ?_
        refine y (ev_move rfl) rfl ?_
        refine yg1 rfl rfl ?_
        refine y (ev_lss rfl rfl) rfl ?_
        refine y (ev_pick1 rfl rfl) rfl ?_
        refine ynil' (kthn (hK10 _ _ ?_))
        clear hK10
        refine ccond rfl (fun h46 => ?_) (fun h46 => ?_)
        · (try simp only [decide_eq_true_eq, beq_iff_eq, beq_eq_false_iff_ne, decide_eq_decide, decide_eq_false_iff_not, Bool.not_eq_true', Bool.not_eq_false', Bool.not_eq_true, Bool.not_eq_false, Bool.not_not, ne_eq, Option.isNone_some, Option.isSome_some, Option.isNone_none, Option.isSome_none] at h46)
          refine cskip' (kthn (hK9 _ _ ?_))
          clear hK9
          refine cseq ?_; intro K11 hK11
          refine cblock ?_
          refine cseq ?_; intro K12 hK12
          refine creg ?_
          obtain ⟨m, hm⟩ : ∃ m, l[z]? = some m := ⟨_, List.getElem?_eq_getElem (by omega)⟩
          have hta := tableA htl m
          refine y (ev_move rfl) rfl ?_
          refine y (ev_move rfl) rfl ?_
          refine y (ev_ixV hv rfl rfl Try.underlying41 Try.sizeOf35 (by omega) (by omega)) rfl ?_
          refine y (ev_loadNV (us := m.cells) (z * 13) hv (by repeat first | exact .refl | exact .nil | exact .z | apply Pk.s | refine Ge.e ?_ | apply Ge.pick | apply Ge.drop) rfl Try.isAgg35 Try.sizeOf35 (by simp) (msgsV_get hm) rfl) rfl ?_
          refine ya (ac_alloc Try.zeroValue35 rfl) rfl ?_
          rintro v L' ⟨b9, rfl, rfl⟩
          refine ya0 (ac_storeAll rfl rfl (msg_one m) Try.sizeOf35 (by repeat first | exact .z | apply Rp.s) (by rfl) (by rfl)) ?_
          rintro v L' ⟨rfl, rfl⟩
          refine ynil' (kthn (hK12 _ _ ?_))
          clear hK12
          refine cseq ?_; intro K13 hK13
          refine cseq ?_; intro K14 hK14
          refine creg ?_
          refine y (ev_fieldAddr 11 rfl Try.underlying35 rfl Try.sizeOf9) rfl ?_
          refine y (ev_load rfl Try.isAgg9 (by repeat first | exact .z | apply In.s) rfl) rfl ?_
          first
            | refine y (ev_lenStr rfl Try.underlying9) rfl ?_
            | refine y (ev_lenS rfl Try.underlying9) rfl ?_
          refine y (ev_gtr rfl rfl) rfl ?_
          refine y (ev_move rfl) rfl ?_
          refine ysplit 47 rfl (fun h58 => ?_) (fun h58 => ?_)
          · (try simp only [decide_eq_true_eq, beq_iff_eq, beq_eq_false_iff_ne, decide_eq_decide, decide_eq_false_iff_not, Bool.not_eq_true', Bool.not_eq_false', Bool.not_eq_true, Bool.not_eq_false, Bool.not_not, ne_eq, Option.isNone_some, Option.isSome_some, Option.isNone_none, Option.isSome_none] at h58)
            refine yg0 rfl rfl rfl rfl ?_
            refine yg0 rfl rfl rfl rfl ?_
            refine yg0 rfl rfl rfl rfl ?_
            refine yg0 rfl rfl rfl rfl ?_
            refine y (ev_pick1 rfl rfl) rfl ?_
            refine ynil' (kthn (hK14 _ _ ?_))
            clear hK14
            refine ccond1 rfl ?_
            refine cseq ?_; intro K15 hK15
            refine creg ?_
            refine y (ev_assign rfl) rfl ?_
            refine ynil' (kthn (hK15 _ _ ?_))
            clear hK15
            refine cret (kthr (kbr (kthr (kthr (kbr (kthr ?_))))))
            first
              | (exfalso; omega; done)
              | (refine kretv Try.results6 rfl (L1 := R) (by repeat first | exact .refl | exact .nil | exact .z | apply Pk.s | refine Ge.e ?_ | apply Ge.pick | apply Ge.drop) ?_
                 exact ⟨_, ⟨by first | rfl | (exfalso; simp_all; done), rfl⟩, by first | rfl | (exfalso; simp_all; done)⟩)
          · (try simp only [decide_eq_true_eq, beq_iff_eq, beq_eq_false_iff_ne, decide_eq_decide, decide_eq_false_iff_not, Bool.not_eq_true', Bool.not_eq_false', Bool.not_eq_true, Bool.not_eq_false, Bool.not_not, ne_eq, Option.isNone_some, Option.isSome_some, Option.isNone_none, Option.isSome_none] at h58)
            refine yg1 rfl rfl ?_
            refine y (ev_fieldAddr 12 rfl Try.underlying35 rfl Try.sizeOf9) rfl ?_
            refine yg1 rfl rfl ?_
            refine y (ev_load rfl Try.isAgg9 (by repeat first | exact .z | apply In.s) rfl) rfl ?_
            refine yg1 rfl rfl ?_
            first
              | refine y (ev_lenStr rfl Try.underlying9) rfl ?_
              | refine y (ev_lenS rfl Try.underlying9) rfl ?_
            refine yg1 rfl rfl ?_
            refine y (ev_gtr rfl rfl) rfl ?_
            refine y (ev_pick0 rfl rfl) rfl ?_
            refine ynil' (kthn (hK14 _ _ ?_))
            clear hK14
            refine ccond rfl (fun h66 => ?_) (fun h66 => ?_)
            · (try simp only [decide_eq_true_eq, beq_iff_eq, beq_eq_false_iff_ne, decide_eq_decide, decide_eq_false_iff_not, Bool.not_eq_true', Bool.not_eq_false', Bool.not_eq_true, Bool.not_eq_false, Bool.not_not, ne_eq, Option.isNone_some, Option.isSome_some, Option.isNone_none, Option.isSome_none] at h66)
              refine cseq ?_; intro K16 hK16
              refine creg ?_
              refine y (ev_assign rfl) rfl ?_
              refine ynil' (kthn (hK16 _ _ ?_))
              clear hK16
              refine cret (kthr (kbr (kthr (kthr (kbr (kthr ?_))))))
              first
                | (exfalso; omega; done)
                | (refine kretv Try.results6 rfl (L1 := R) (by repeat first | exact .refl | exact .nil | exact .z | apply Pk.s | refine Ge.e ?_ | apply Ge.pick | apply Ge.drop) ?_
                   exact ⟨_, ⟨by first | rfl | (exfalso; simp_all; done), rfl⟩, by first | rfl | (exfalso; simp_all; done)⟩)
            · (try simp only [decide_eq_true_eq, beq_iff_eq, beq_eq_false_iff_ne, decide_eq_decide, decide_eq_false_iff_not, Bool.not_eq_true', Bool.not_eq_false', Bool.not_eq_true, Bool.not_eq_false, Bool.not_not, ne_eq, Option.isNone_some, Option.isSome_some, Option.isNone_none, Option.isSome_none] at h66)
              refine cskip' (kthn (hK13 _ _ ?_))
              clear hK13
              refine cseq ?_; intro K17 hK17
              refine creg ?_
              refine y (ev_move rfl) rfl ?_
              refine ycall (gTable ?gw69) rfl Try.call24 (by repeat first | exact .nil | exact .z | apply Pk.s | apply Tk.cons) rfl ?_
              case gw69 => exact hG.wf
              rintro v L' ⟨rfl, rfl⟩
              rw [hA]
              refine ya (ac_alloc Try.zeroValue33 rfl) rfl ?_
              rintro v L' ⟨b10, rfl, rfl⟩
              refine ya0 (ac_storeN (vs' := intsV A.tab) rfl rfl (intsV_one _) Try.sizeOf33 (by repeat first | exact .z | apply Rp.s) (by simp [intsV, htl]) (by simp [intsV, htl]) (by simp [intsV, htl])) ?_
              rintro v L' ⟨rfl, rfl⟩
              refine ynil' (kthn (hK17 _ _ ?_))
              clear hK17
              refine cseq ?_; intro K18 hK18
              refine creg ?_
              refine y (ev_move rfl) rfl ?_
              refine y (ev_fieldAddr 4 rfl Try.underlying35 rfl Try.sizeOf3) rfl ?_
              refine y (ev_load rfl Try.isAgg3 (by repeat first | exact .z | apply In.s) rfl) rfl ?_
              refine ycall (gGet ?gw75) rfl Try.call25 (by repeat first | exact .nil | exact .z | apply Pk.s | apply Tk.cons) rfl ?_
              case gw75 => exact hG.wf
              rintro v L' ⟨rfl, rfl⟩
              rw [hA]
              refine y (ev_move rfl) rfl ?_
              refine y (ev_extract rfl rfl) rfl ?_
              refine y (ev_extract rfl rfl) rfl ?_
              refine ya (ac_alloc Try.zeroValue50 rfl) rfl ?_
              rintro v L' ⟨b11, rfl, rfl⟩
              refine ya0 (ac_storeAll rfl rfl (by first | exact bytesV_one _ | (simp [Value.oneCell']; done) | (simp only [List.forall_mem_cons, List.not_mem_nil, false_implies, implies_true, svVal_one, and_true, true_and, and_self]; first | done | simp [Value.oneCell'])) Try.sizeOf50 (by repeat first | exact .z | apply Rp.s) (by first | rfl | assumption | (simp [*]; done) | (simp [*]; omega)) (by first | rfl | assumption | (simp [*]; done) | (simp [*]; omega))) ?_
              rintro v L' ⟨rfl, rfl⟩
              refine y (ev_assign rfl) rfl ?_
              refine ynil' (kthn (hK18 _ _ ?_))
              clear hK18
              refine cseq ?_; intro K19 hK19
              refine creg ?_
              refine y (ev_move rfl) rfl ?_
              refine y (ev_loadN (u := m.cells) rfl Try.isAgg35 Try.sizeOf35 (by repeat first | exact .z | apply In.s) rfl rfl) rfl ?_
              refine ycall (gTake (k := z) ?gd84 ?gk84) rfl Try.call22 (by repeat first | exact .nil | exact .z | apply Pk.s | apply Tk.cons) rfl ?_
              case gd84 => exact hG
              case gk84 => omega
              rintro v L' ⟨D65, rfl, hG65, hA65, rfl⟩
              rw [hA] at hA65 ⊢
              generalize (A.take m).2 = B at *
              generalize (A.take m).1 = a at *
              obtain ⟨o, is⟩ := a
              have htB : B.tab.length = 4 := hta.len
              have hge := hta.ge
              have hfresh := hta.fresh
              have hload := hta.load
              dsimp only at hge hfresh hload ⊢
              refine y (ev_move rfl) rfl ?_
              refine y (ev_extract rfl rfl) rfl ?_
              refine y (ev_extract rfl rfl) rfl ?_
              refine ya (ac_alloc Try.zeroValue35 rfl) rfl ?_
              rintro v L' ⟨b13, rfl, rfl⟩
              refine ya0 (ac_storeAll rfl rfl (msg_one o) Try.sizeOf35 (by repeat first | exact .z | apply Rp.s) (by rfl) (by rfl)) ?_
              rintro v L' ⟨rfl, rfl⟩
              refine y (ev_assign rfl) rfl ?_
              refine ynil' (kthn (hK19 _ _ ?_))
              clear hK19
              refine cseq ?_; intro K20 hK20
              refine creg ?_
              refine y (ev_move rfl) rfl ?_
              refine ycall (gTable ?gw92) rfl Try.call24 (by repeat first | exact .nil | exact .z | apply Pk.s | apply Tk.cons) rfl ?_
              case gw92 => exact hG65.wf
              rintro v L' ⟨rfl, rfl⟩
              rw [hA65]
              refine ya (ac_alloc Try.zeroValue33 rfl) rfl ?_
              rintro v L' ⟨b15, rfl, rfl⟩
              refine ya0 (ac_storeN (vs' := intsV B.tab) rfl rfl (intsV_one _) Try.sizeOf33 (by repeat first | exact .z | apply Rp.s) (by simp [intsV, htB]) (by simp [intsV, htB]) (by simp [intsV, htB])) ?_
              rintro v L' ⟨rfl, rfl⟩
              refine ynil' (kthn (hK20 _ _ ?_))
              clear hK20
              refine cseq ?_; intro K21 hK21
              refine cseq ?_; intro K22 hK22
              refine creg ?_
              refine y (ev_move rfl) rfl ?_
              refine ynil' (kthn (hK22 _ _ ?_))
              clear hK22
              have hJ2 : ∀ x : Nat, ((x ≤ 4) ∧ (x = 4)) → Sk 159 K21 ([(70, i64 x), (15, ptr b15), (10, ptr b10), (11, ptr b11), (13, ptr b13), (14, .bool is), (9, ptr b9), (8, i64 z), (6, ptr X23.s), (7, i64 n), (1, lv)]) ([sc b15 (intsV B.tab) 33, sc b10 (intsV A.tab) 33, sc b11 [i64 (A.getB m.block).v0, i64 (A.getB m.block).v1] 50, sc b13 o.cells 35, sc b9 m.cells 35, stG X23 D65 n] ++ R) := by
                rintro i ⟨hI2, hX2⟩
                refine hK21 _ _ ?_
                have hi2 := hI2
                refine cseq ?_; intro K23 hK23
                have hJr23 : ∀ x : Bool, (x = true → leT (msgT m) B.tab ∧ (0 ≤ m.client → m.client ≤ 3 ∧ m.n ≤ B.tab.getD m.client.toNat 0)) → Sk 159 K23 ([(17, .bool x), (15, ptr b15), (13, ptr b13), (14, .bool is), (9, ptr b9), (8, i64 z), (6, ptr X23.s), (7, i64 n), (1, lv)]) ([sc b15 (intsV B.tab) 33, sc b13 o.cells 35, sc b9 m.cells 35, stG X23 D65 n] ++ R) := by
                  rintro fr hIr23
                  refine hK23 _ _ ?_
                  have hfr := hIr23
                  refine cseq ?_; intro K24 hK24
                  refine cseq ?_; intro K25 hK25
                  refine cdraw 14 [(0, true), (1, true), (2, true), (3, true), (4, true), (5, true), (6, true), (7, true), (8, true), (9, true), (10, true), (11, true), (12, true), (13, true)] (_) Try.mixed (by kernel_rfl) .refl ?_
                  refine hr rfl (ev_move rfl) rfl ?_
                  refine hr rfl (ev_move rfl) rfl ?_
                  refine hsplit 113 rfl (fun h98 => ?_) (fun h98 => ?_)
                  · (try simp only [decide_eq_true_eq, beq_iff_eq, beq_eq_false_iff_ne, decide_eq_decide, decide_eq_false_iff_not, Bool.not_eq_true', Bool.not_eq_false', Bool.not_eq_true, Bool.not_eq_false, Bool.not_not, ne_eq, Option.isNone_some, Option.isSome_some, Option.isNone_none, Option.isSome_none] at h98)
                    obtain ⟨hfT, hfC⟩ := hfr h98
                    refine hr1 rfl rfl rfl (ev_fieldAddr 5 rfl Try.underlying35 rfl Try.sizeOf3) rfl ?_
                    refine hr1 rfl rfl rfl (ev_load rfl Try.isAgg3 (by repeat first | exact .z | apply In.s) rfl) rfl ?_
                    refine hr1 rfl rfl rfl (ev_geq rfl rfl) rfl ?_
                    refine hr rfl (ev_pick1 rfl rfl) rfl ?_
                    refine hr rfl (ev_move rfl) rfl ?_
                    refine hsplit 118 rfl (fun h104 => ?_) (fun h104 => ?_)
                    · (try simp only [decide_eq_true_eq, beq_iff_eq, beq_eq_false_iff_ne, decide_eq_decide, decide_eq_false_iff_not, Bool.not_eq_true', Bool.not_eq_false', Bool.not_eq_true, Bool.not_eq_false, Bool.not_not, ne_eq, Option.isNone_some, Option.isSome_some, Option.isNone_none, Option.isSome_none] at h104)
                      obtain ⟨hc3, hcn⟩ := hfC (by omega)
                      refine hr1 rfl rfl rfl (ev_fieldAddr 5 rfl Try.underlying35 rfl Try.sizeOf3) rfl ?_
                      refine hr1 rfl rfl rfl (ev_load rfl Try.isAgg3 (by repeat first | exact .z | apply In.s) rfl) rfl ?_
                      refine hr1 rfl rfl rfl (ev_ixAddrA rfl rfl Try.underlying33 Try.sizeOf2 (by omega) (by omega)) rfl ?_
                      refine hr1 rfl rfl rfl (ev_load rfl Try.isAgg2 (by repeat first | exact .z | apply In.s) (by simpa using intsV_get (getd_get (d := 0) (show m.client.toNat < B.tab.length by omega)))) rfl ?_
                      refine hr1 rfl rfl rfl (ev_fieldAddr 3 rfl Try.underlying35 rfl Try.sizeOf2) rfl ?_
                      refine hr1 rfl rfl rfl (ev_load rfl Try.isAgg2 (by repeat first | exact .z | apply In.s) rfl) rfl ?_
                      refine hr1 rfl rfl rfl (ev_lss rfl rfl) rfl ?_
                      refine hnil ?_
                      refine y (ev_pick1 rfl rfl) rfl ?_
                      refine hnoP' (kthn (hK25 _ _ ?_))
                      clear hK25
                      refine ccond rfl (fun h113 => ?_) (fun h113 => ?_)
                      · (try simp only [decide_eq_true_eq, beq_iff_eq, beq_eq_false_iff_ne, decide_eq_decide, decide_eq_false_iff_not, Bool.not_eq_true', Bool.not_eq_false', Bool.not_eq_true, Bool.not_eq_false, Bool.not_not, ne_eq, Option.isNone_some, Option.isSome_some, Option.isNone_none, Option.isSome_none] at h113)
                        exfalso; simp only [List.getD_eq_getElem?_getD] at *; omega
                      · (try simp only [decide_eq_true_eq, beq_iff_eq, beq_eq_false_iff_ne, decide_eq_decide, decide_eq_false_iff_not, Bool.not_eq_true', Bool.not_eq_false', Bool.not_eq_true, Bool.not_eq_false, Bool.not_not, ne_eq, Option.isNone_some, Option.isSome_some, Option.isNone_none, Option.isSome_none] at h113)
                        refine cskip' (kthn (hK24 _ _ ?_))
                        clear hK24
                        refine cseq ?_; intro K26 hK26
                        refine cseq ?_; intro K27 hK27
                        refine creg ?_
                        refine y (ev_move rfl) rfl ?_
                        refine ynil' (kthn (hK27 _ _ ?_))
                        clear hK27
                        have hJ3 : ∀ x : Nat, ((x ≤ 4) ∧ (x = 4)) → Sk 159 K26 ([(127, i64 x), (17, .bool fr), (15, ptr b15), (13, ptr b13), (14, .bool is), (9, ptr b9), (8, i64 z), (6, ptr X23.s), (7, i64 n), (1, lv)]) ([sc b15 (intsV B.tab) 33, sc b13 o.cells 35, sc b9 m.cells 35, stG X23 D65 n] ++ R) := by
                          rintro i ⟨hI3, hX3⟩
                          refine hK26 _ _ ?_
                          have hi3 := hI3
                          refine cseq ?_; intro K28 hK28
                          refine creg ?_
                          refine y (ev_move rfl) rfl ?_
                          refine y (ev_move rfl) rfl ?_
                          refine ysplit 143 rfl (fun h117 => ?_) (fun h117 => ?_)
                          · (try simp only [decide_eq_true_eq, beq_iff_eq, beq_eq_false_iff_ne, decide_eq_decide, decide_eq_false_iff_not, Bool.not_eq_true', Bool.not_eq_false', Bool.not_eq_true, Bool.not_eq_false, Bool.not_not, ne_eq, Option.isNone_some, Option.isSome_some, Option.isNone_none, Option.isSome_none] at h117)
                            refine yg1 rfl rfl ?_
                            refine y (ev_fieldAddr 6 rfl Try.underlying35 rfl Try.sizeOf32) rfl ?_
                            refine yg1 rfl rfl ?_
                            refine y (ev_load rfl Try.isAgg32 (by repeat first | exact .z | apply In.s) rfl) rfl ?_
                            refine yg1 rfl rfl ?_
                            refine y (ev_eql rfl rfl) rfl ?_
                            refine y (ev_pick1 rfl rfl) rfl ?_
                            refine y (ev_move rfl) rfl ?_
                            refine ysplit 148 rfl (fun h123 => ?_) (fun h123 => ?_)
                            · (try simp only [decide_eq_true_eq, beq_iff_eq, beq_eq_false_iff_ne, decide_eq_decide, decide_eq_false_iff_not, Bool.not_eq_true', Bool.not_eq_false', Bool.not_eq_true, Bool.not_eq_false, Bool.not_not, ne_eq, Option.isNone_some, Option.isSome_some, Option.isNone_none, Option.isSome_none] at h123)
                              refine yg1 rfl rfl ?_
                              refine y (ev_fieldAddr 0 rfl Try.underlying35 rfl Try.sizeOf3) rfl ?_
                              refine yg1 rfl rfl ?_
                              refine y (ev_load rfl Try.isAgg3 (by repeat first | exact .z | apply In.s) rfl) rfl ?_
                              refine yg1 rfl rfl ?_
                              refine y (ev_eql rfl rfl) rfl ?_
                              refine y (ev_pick1 rfl rfl) rfl ?_
                              refine y (ev_move rfl) rfl ?_
                              refine ysplit 153 rfl (fun h129 => ?_) (fun h129 => ?_)
                              · (try simp only [decide_eq_true_eq, beq_iff_eq, beq_eq_false_iff_ne, decide_eq_decide, decide_eq_false_iff_not, Bool.not_eq_true', Bool.not_eq_false', Bool.not_eq_true, Bool.not_eq_false, Bool.not_not, ne_eq, Option.isNone_some, Option.isSome_some, Option.isNone_none, Option.isSome_none] at h129)
                                refine yg1 rfl rfl ?_
                                refine y (ev_fieldAddr 7 rfl Try.underlying35 rfl Try.sizeOf33) rfl ?_
                                refine yg1 rfl rfl ?_
                                refine y (ev_loadN (u := intsV [o.t0, o.t1, o.t2, o.t3]) rfl Try.isAgg33 Try.sizeOf33 (by repeat first | exact .z | apply In.s) rfl rfl) rfl ?_
                                refine yg1 rfl rfl ?_
                                refine y (ev_loadN (u := intsV B.tab) rfl Try.isAgg33 Try.sizeOf33 (by repeat first | exact .z | apply In.s) (by rw [List.drop_zero, List.take_of_length_le (by simp [intsV, htB])]) (by simp [intsV, htB])) rfl ?_
                                refine yg1 rfl rfl ?_
                                refine y (ev_neqI (k := 4) rfl rfl (by kernel_rfl) (by kernel_rfl) (by kernel_rfl) rfl htB) rfl ?_
                                refine y (ev_pick1 rfl rfl) rfl ?_
                                refine ynil' (kthn (hK28 _ _ ?_))
                                clear hK28
                                refine ccond rfl (fun h135 => ?_) (fun h135 => ?_)
                                · (try simp only [decide_eq_true_eq, beq_iff_eq, beq_eq_false_iff_ne, decide_eq_decide, decide_eq_false_iff_not, Bool.not_eq_true', Bool.not_eq_false', Bool.not_eq_true, Bool.not_eq_false, Bool.not_not, ne_eq, Option.isNone_some, Option.isSome_some, Option.isNone_none, Option.isSome_none] at h135)
                                  exfalso; exact absurd (hload (by assumption) (by assumption) (by assumption)) h135
                                · (try simp only [decide_eq_true_eq, beq_iff_eq, beq_eq_false_iff_ne, decide_eq_decide, decide_eq_false_iff_not, Bool.not_eq_true', Bool.not_eq_false', Bool.not_eq_true, Bool.not_eq_false, Bool.not_not, ne_eq, Option.isNone_some, Option.isSome_some, Option.isNone_none, Option.isSome_none] at h135)
                                  refine cskip' (kbn (kthn (hK11 _ _ ?_)))
                                  clear hK11
                                  refine creg ?_
                                  refine y (ev_move rfl) rfl ?_
                                  refine y (ev_add rfl rfl) rfl ?_
                                  rw [show IntKind.i64.wrap ((z:Int) + 1) = ((z+1 : Nat) : Int) by rw [wr (by omega) (by omega)]; rfl]
                                  refine y (ev_assign rfl) rfl ?_
                                  refine ynil' (kthn ?_)
                                  exact hL1 ((z + 1, D65)) (⟨hG65, by dsimp only; omega, by dsimp only; omega⟩) (by dsimp only; omega) _ _ (by repeat first | exact sub_nil | refine sub_cons rfl ?_ | refine sub_cons' rfl (by simp) ?_) (by repeat first | exact .refl | exact .nil | exact .z | apply Pk.s | refine Ge.e ?_ | apply Ge.pick | apply Ge.drop)
                              · (try simp only [decide_eq_true_eq, beq_iff_eq, beq_eq_false_iff_ne, decide_eq_decide, decide_eq_false_iff_not, Bool.not_eq_true', Bool.not_eq_false', Bool.not_eq_true, Bool.not_eq_false, Bool.not_not, ne_eq, Option.isNone_some, Option.isSome_some, Option.isNone_none, Option.isSome_none] at h129)
                                refine yg0 rfl rfl rfl rfl ?_
                                refine yg0 rfl rfl rfl rfl ?_
                                refine yg0 rfl rfl rfl rfl ?_
                                refine yg0 rfl rfl rfl rfl ?_
                                refine y (ev_pick0 rfl rfl) rfl ?_
                                refine ynil' (kthn (hK28 _ _ ?_))
                                clear hK28
                                refine ccond0 rfl ?_
                                refine cskip' (kbn (kthn (hK11 _ _ ?_)))
                                clear hK11
                                refine creg ?_
                                refine y (ev_move rfl) rfl ?_
                                refine y (ev_add rfl rfl) rfl ?_
                                rw [show IntKind.i64.wrap ((z:Int) + 1) = ((z+1 : Nat) : Int) by rw [wr (by omega) (by omega)]; rfl]
                                refine y (ev_assign rfl) rfl ?_
                                refine ynil' (kthn ?_)
                                exact hL1 ((z + 1, D65)) (⟨hG65, by dsimp only; omega, by dsimp only; omega⟩) (by dsimp only; omega) _ _ (by repeat first | exact sub_nil | refine sub_cons rfl ?_ | refine sub_cons' rfl (by simp) ?_) (by repeat first | exact .refl | exact .nil | exact .z | apply Pk.s | refine Ge.e ?_ | apply Ge.pick | apply Ge.drop)
                            · (try simp only [decide_eq_true_eq, beq_iff_eq, beq_eq_false_iff_ne, decide_eq_decide, decide_eq_false_iff_not, Bool.not_eq_true', Bool.not_eq_false', Bool.not_eq_true, Bool.not_eq_false, Bool.not_not, ne_eq, Option.isNone_some, Option.isSome_some, Option.isNone_none, Option.isSome_none] at h123)
                              refine yg0 rfl rfl rfl rfl ?_
                              refine yg0 rfl rfl rfl rfl ?_
                              refine yg0 rfl rfl rfl rfl ?_
                              refine y (ev_pick0 rfl rfl) rfl ?_
                              refine y (ev_move rfl) rfl ?_
                              refine yg0 rfl rfl rfl rfl ?_
                              refine yg0 rfl rfl rfl rfl ?_
                              refine yg0 rfl rfl rfl rfl ?_
                              refine yg0 rfl rfl rfl rfl ?_
                              refine y (ev_pick0 rfl rfl) rfl ?_
                              refine ynil' (kthn (hK28 _ _ ?_))
                              clear hK28
                              refine ccond0 rfl ?_
                              refine cskip' (kbn (kthn (hK11 _ _ ?_)))
                              clear hK11
                              refine creg ?_
                              refine y (ev_move rfl) rfl ?_
                              refine y (ev_add rfl rfl) rfl ?_
                              rw [show IntKind.i64.wrap ((z:Int) + 1) = ((z+1 : Nat) : Int) by rw [wr (by omega) (by omega)]; rfl]
                              refine y (ev_assign rfl) rfl ?_
                              refine ynil' (kthn ?_)
                              exact hL1 ((z + 1, D65)) (⟨hG65, by dsimp only; omega, by dsimp only; omega⟩) (by dsimp only; omega) _ _ (by repeat first | exact sub_nil | refine sub_cons rfl ?_ | refine sub_cons' rfl (by simp) ?_) (by repeat first | exact .refl | exact .nil | exact .z | apply Pk.s | refine Ge.e ?_ | apply Ge.pick | apply Ge.drop)
                          · (try simp only [decide_eq_true_eq, beq_iff_eq, beq_eq_false_iff_ne, decide_eq_decide, decide_eq_false_iff_not, Bool.not_eq_true', Bool.not_eq_false', Bool.not_eq_true, Bool.not_eq_false, Bool.not_not, ne_eq, Option.isNone_some, Option.isSome_some, Option.isNone_none, Option.isSome_none] at h117)
                            refine yg0 rfl rfl rfl rfl ?_
                            refine yg0 rfl rfl rfl rfl ?_
                            refine yg0 rfl rfl rfl rfl ?_
                            refine y (ev_pick0 rfl rfl) rfl ?_
                            refine y (ev_move rfl) rfl ?_
                            refine yg0 rfl rfl rfl rfl ?_
                            refine yg0 rfl rfl rfl rfl ?_
                            refine yg0 rfl rfl rfl rfl ?_
                            refine y (ev_pick0 rfl rfl) rfl ?_
                            refine y (ev_move rfl) rfl ?_
                            refine yg0 rfl rfl rfl rfl ?_
                            refine yg0 rfl rfl rfl rfl ?_
                            refine yg0 rfl rfl rfl rfl ?_
                            refine yg0 rfl rfl rfl rfl ?_
                            refine y (ev_pick0 rfl rfl) rfl ?_
                            refine ynil' (kthn (hK28 _ _ ?_))
                            clear hK28
                            refine ccond0 rfl ?_
                            refine cskip' (kbn (kthn (hK11 _ _ ?_)))
                            clear hK11
                            refine creg ?_
                            refine y (ev_move rfl) rfl ?_
                            refine y (ev_add rfl rfl) rfl ?_
                            rw [show IntKind.i64.wrap ((z:Int) + 1) = ((z+1 : Nat) : Int) by rw [wr (by omega) (by omega)]; rfl]
                            refine y (ev_assign rfl) rfl ?_
                            refine ynil' (kthn ?_)
                            exact hL1 ((z + 1, D65)) (⟨hG65, by dsimp only; omega, by dsimp only; omega⟩) (by dsimp only; omega) _ _ (by repeat first | exact sub_nil | refine sub_cons rfl ?_ | refine sub_cons' rfl (by simp) ?_) (by repeat first | exact .refl | exact .nil | exact .z | apply Pk.s | refine Ge.e ?_ | apply Ge.pick | apply Ge.drop)
                        clear hK26
                        refine cblock ?_
                        refine cloop (A := Nat) (fun x => [(127, i64 x), (17, .bool fr), (15, ptr b15), (13, ptr b13), (14, .bool is), (9, ptr b9), (8, i64 z), (6, ptr X23.s), (7, i64 n), (1, lv)]) (fun x => [sc b15 (intsV B.tab) 33, sc b13 o.cells 35, sc b9 m.cells 35, stG X23 D65 n] ++ R) (fun x => x ≤ 4) (fun x => 4 - x) (0) ?_ (by repeat first | exact sub_nil | refine sub_cons rfl ?_ | refine sub_cons' rfl (by simp) ?_) (by repeat first | exact .refl | exact .nil | exact .z | apply Pk.s | refine Ge.e ?_ | apply Ge.pick | apply Ge.drop) ?_
                        · exact Nat.zero_le _
                        rintro i hI3 KL3 hL3
                        have hI3o := hI3
                        have hi3 := hI3
                        refine cseq ?_; intro K29 hK29
                        refine creg ?_
                        refine y (ev_lss rfl rfl) rfl ?_
                        refine ynil' (kthn (hK29 _ _ ?_))
                        clear hK29
                        refine cseq ?_; intro K30 hK30
                        refine ccond rfl (fun h158 => ?_) (fun h158 => ?_)
                        · (try simp only [decide_eq_true_eq, beq_iff_eq, beq_eq_false_iff_ne, decide_eq_decide, decide_eq_false_iff_not, Bool.not_eq_true', Bool.not_eq_false', Bool.not_eq_true, Bool.not_eq_false, Bool.not_not, ne_eq, Option.isNone_some, Option.isSome_some, Option.isNone_none, Option.isSome_none] at h158)
                          refine cskip' (kthn (hK30 _ _ ?_))
                          clear hK30
                          refine cseq ?_; intro K31 hK31
                          refine cblock ?_
                          refine cseq ?_; intro K32 hK32
                          refine creg ?_
                          refine y (ev_move rfl) rfl ?_
                          refine y (ev_assign rfl) rfl ?_
                          refine ynil' (kthn (hK32 _ _ ?_))
                          clear hK32
                          refine cseq ?_; intro K33 hK33
                          refine cdraw 10 [(0, true), (1, true), (2, true), (3, true), (4, true), (5, true), (6, true), (7, true), (8, true), (9, true)] (_) Try.mixed (by kernel_rfl) .refl ?_
                          refine hr rfl (ev_move rfl) rfl ?_
                          refine hr rfl (ev_move rfl) rfl ?_
                          refine hsplit 131 rfl (fun h163 => ?_) (fun h163 => ?_)
                          · (try simp only [decide_eq_true_eq, beq_iff_eq, beq_eq_false_iff_ne, decide_eq_decide, decide_eq_false_iff_not, Bool.not_eq_true', Bool.not_eq_false', Bool.not_eq_true, Bool.not_eq_false, Bool.not_not, ne_eq, Option.isNone_some, Option.isSome_some, Option.isNone_none, Option.isSome_none] at h163)
                            obtain ⟨hfT, hfC⟩ := hfr h163
                            refine hr1 rfl rfl rfl (ev_move rfl) rfl ?_
                            refine hr1 rfl rfl rfl (ev_ixAddrA rfl rfl Try.underlying33 Try.sizeOf2 (by omega) (by omega)) rfl ?_
                            refine hr1 rfl rfl rfl (ev_load rfl Try.isAgg2 (by repeat first | exact .z | apply In.s) (by simpa using intsV_get (getd_get (d := 0) (show i < B.tab.length by omega)))) rfl ?_
                            refine hr1 rfl rfl rfl (ev_move rfl) rfl ?_
                            refine hr1 rfl rfl rfl (ev_fieldAddr 7 rfl Try.underlying35 rfl Try.sizeOf33) rfl ?_
                            refine hr1 rfl rfl rfl (ev_ixAddrA rfl rfl Try.underlying33 Try.sizeOf2 (by omega) (by omega)) rfl ?_
                            refine hr1 rfl rfl rfl (ev_load rfl Try.isAgg2 (by repeat first | exact .z | apply In.s) (by simpa using msg_tn (m := m) (show i < 4 by omega))) rfl ?_
                            refine hr1 rfl rfl rfl (ev_lss rfl rfl) rfl ?_
                            refine hnil ?_
                            refine y (ev_pick1 rfl rfl) rfl ?_
                            refine hnoP' (kthn (hK33 _ _ ?_))
                            clear hK33
                            refine ccond rfl (fun h173 => ?_) (fun h173 => ?_)
                            · (try simp only [decide_eq_true_eq, beq_iff_eq, beq_eq_false_iff_ne, decide_eq_decide, decide_eq_false_iff_not, Bool.not_eq_true', Bool.not_eq_false', Bool.not_eq_true, Bool.not_eq_false, Bool.not_not, ne_eq, Option.isNone_some, Option.isSome_some, Option.isNone_none, Option.isSome_none] at h173)
                              exfalso; have := hfT i (by omega); simp only [List.getD_eq_getElem?_getD] at *; omega
                            · (try simp only [decide_eq_true_eq, beq_iff_eq, beq_eq_false_iff_ne, decide_eq_decide, decide_eq_false_iff_not, Bool.not_eq_true', Bool.not_eq_false', Bool.not_eq_true, Bool.not_eq_false, Bool.not_not, ne_eq, Option.isNone_some, Option.isSome_some, Option.isNone_none, Option.isSome_none] at h173)
                              refine cskip' (kbn (kthn (hK31 _ _ ?_)))
                              clear hK31
                              refine creg ?_
                              refine y (ev_add rfl rfl) rfl ?_
                              rw [show IntKind.i64.wrap ((i:Int) + 1) = ((i+1 : Nat) : Int) by rw [wr (by omega) (by omega)]; rfl]
                              refine y (ev_move rfl) rfl ?_
                              refine ynil' (kthn ?_)
                              exact hL3 (i + 1) (by omega) (by omega) _ _ (by repeat first | exact sub_nil | refine sub_cons rfl ?_ | refine sub_cons' rfl (by simp) ?_) (by repeat first | exact .refl | exact .nil | exact .z | apply Pk.s | refine Ge.e ?_ | apply Ge.pick | apply Ge.drop)
                          · (try simp only [decide_eq_true_eq, beq_iff_eq, beq_eq_false_iff_ne, decide_eq_decide, decide_eq_false_iff_not, Bool.not_eq_true', Bool.not_eq_false', Bool.not_eq_true, Bool.not_eq_false, Bool.not_not, ne_eq, Option.isNone_some, Option.isSome_some, Option.isNone_none, Option.isSome_none] at h163)
                            refine hr0 rfl rfl rfl rfl rfl ?_
                            refine hr0 rfl rfl rfl rfl rfl ?_
                            refine hr0 rfl rfl rfl rfl rfl ?_
                            refine hr0 rfl rfl rfl rfl rfl ?_
                            refine hr0 rfl rfl rfl rfl rfl ?_
                            refine hr0 rfl rfl rfl rfl rfl ?_
                            refine hr0 rfl rfl rfl rfl rfl ?_
                            refine hr0 rfl rfl rfl rfl rfl ?_
                            refine hnil ?_
                            refine y (ev_pick0 rfl rfl) rfl ?_
                            refine hnoP' (kthn (hK33 _ _ ?_))
                            clear hK33
                            refine ccond0 rfl ?_
                            refine cskip' (kbn (kthn (hK31 _ _ ?_)))
                            clear hK31
                            refine creg ?_
                            refine y (ev_add rfl rfl) rfl ?_
                            rw [show IntKind.i64.wrap ((i:Int) + 1) = ((i+1 : Nat) : Int) by rw [wr (by omega) (by omega)]; rfl]
                            refine y (ev_move rfl) rfl ?_
                            refine ynil' (kthn ?_)
                            exact hL3 (i + 1) (by omega) (by omega) _ _ (by repeat first | exact sub_nil | refine sub_cons rfl ?_ | refine sub_cons' rfl (by simp) ?_) (by repeat first | exact .refl | exact .nil | exact .z | apply Pk.s | refine Ge.e ?_ | apply Ge.pick | apply Ge.drop)
                        · (try simp only [decide_eq_true_eq, beq_iff_eq, beq_eq_false_iff_ne, decide_eq_decide, decide_eq_false_iff_not, Bool.not_eq_true', Bool.not_eq_false', Bool.not_eq_true, Bool.not_eq_false, Bool.not_not, ne_eq, Option.isNone_some, Option.isSome_some, Option.isNone_none, Option.isSome_none] at h158)
                          refine cexit (kthx (kthx (kbx (kthn ?_))))
                          exact ksub (by repeat first | exact sub_nil | refine sub_cons rfl ?_ | refine sub_cons' rfl (by simp) ?_) (by repeat first | exact .refl | exact .nil | exact .z | apply Pk.s | refine Ge.e ?_ | apply Ge.pick | apply Ge.drop) (hJ3 i ⟨hI3o, by first | trivial | omega⟩)
                    · (try simp only [decide_eq_true_eq, beq_iff_eq, beq_eq_false_iff_ne, decide_eq_decide, decide_eq_false_iff_not, Bool.not_eq_true', Bool.not_eq_false', Bool.not_eq_true, Bool.not_eq_false, Bool.not_not, ne_eq, Option.isNone_some, Option.isSome_some, Option.isNone_none, Option.isSome_none] at h104)
                      refine hr0 rfl rfl rfl rfl rfl ?_
                      refine hr0 rfl rfl rfl rfl rfl ?_
                      refine hr0 rfl rfl rfl rfl rfl ?_
                      refine hr0 rfl rfl rfl rfl rfl ?_
                      refine hr0 rfl rfl rfl rfl rfl ?_
                      refine hr0 rfl rfl rfl rfl rfl ?_
                      refine hr0 rfl rfl rfl rfl rfl ?_
                      refine hnil ?_
                      refine y (ev_pick0 rfl rfl) rfl ?_
                      refine hnoP' (kthn (hK25 _ _ ?_))
                      clear hK25
                      refine ccond0 rfl ?_
                      refine cskip' (kthn (hK24 _ _ ?_))
                      clear hK24
                      refine cseq ?_; intro K34 hK34
                      refine cseq ?_; intro K35 hK35
                      refine creg ?_
                      refine y (ev_move rfl) rfl ?_
                      refine ynil' (kthn (hK35 _ _ ?_))
                      clear hK35
                      have hJ3 : ∀ x : Nat, ((x ≤ 4) ∧ (x = 4)) → Sk 159 K34 ([(127, i64 x), (17, .bool fr), (15, ptr b15), (13, ptr b13), (14, .bool is), (9, ptr b9), (8, i64 z), (6, ptr X23.s), (7, i64 n), (1, lv)]) ([sc b15 (intsV B.tab) 33, sc b13 o.cells 35, sc b9 m.cells 35, stG X23 D65 n] ++ R) := by
                        rintro i ⟨hI3, hX3⟩
                        refine hK34 _ _ ?_
                        have hi3 := hI3
                        refine cseq ?_; intro K36 hK36
                        refine creg ?_
                        refine y (ev_move rfl) rfl ?_
                        refine y (ev_move rfl) rfl ?_
                        refine ysplit 143 rfl (fun h183 => ?_) (fun h183 => ?_)
                        · (try simp only [decide_eq_true_eq, beq_iff_eq, beq_eq_false_iff_ne, decide_eq_decide, decide_eq_false_iff_not, Bool.not_eq_true', Bool.not_eq_false', Bool.not_eq_true, Bool.not_eq_false, Bool.not_not, ne_eq, Option.isNone_some, Option.isSome_some, Option.isNone_none, Option.isSome_none] at h183)
                          refine yg1 rfl rfl ?_
                          refine y (ev_fieldAddr 6 rfl Try.underlying35 rfl Try.sizeOf32) rfl ?_
                          refine yg1 rfl rfl ?_
                          refine y (ev_load rfl Try.isAgg32 (by repeat first | exact .z | apply In.s) rfl) rfl ?_
                          refine yg1 rfl rfl ?_
                          refine y (ev_eql rfl rfl) rfl ?_
                          refine y (ev_pick1 rfl rfl) rfl ?_
                          refine y (ev_move rfl) rfl ?_
                          refine ysplit 148 rfl (fun h189 => ?_) (fun h189 => ?_)
                          · (try simp only [decide_eq_true_eq, beq_iff_eq, beq_eq_false_iff_ne, decide_eq_decide, decide_eq_false_iff_not, Bool.not_eq_true', Bool.not_eq_false', Bool.not_eq_true, Bool.not_eq_false, Bool.not_not, ne_eq, Option.isNone_some, Option.isSome_some, Option.isNone_none, Option.isSome_none] at h189)
                            refine yg1 rfl rfl ?_
                            refine y (ev_fieldAddr 0 rfl Try.underlying35 rfl Try.sizeOf3) rfl ?_
                            refine yg1 rfl rfl ?_
                            refine y (ev_load rfl Try.isAgg3 (by repeat first | exact .z | apply In.s) rfl) rfl ?_
                            refine yg1 rfl rfl ?_
                            refine y (ev_eql rfl rfl) rfl ?_
                            refine y (ev_pick1 rfl rfl) rfl ?_
                            refine y (ev_move rfl) rfl ?_
                            refine ysplit 153 rfl (fun h195 => ?_) (fun h195 => ?_)
                            · (try simp only [decide_eq_true_eq, beq_iff_eq, beq_eq_false_iff_ne, decide_eq_decide, decide_eq_false_iff_not, Bool.not_eq_true', Bool.not_eq_false', Bool.not_eq_true, Bool.not_eq_false, Bool.not_not, ne_eq, Option.isNone_some, Option.isSome_some, Option.isNone_none, Option.isSome_none] at h195)
                              refine yg1 rfl rfl ?_
                              refine y (ev_fieldAddr 7 rfl Try.underlying35 rfl Try.sizeOf33) rfl ?_
                              refine yg1 rfl rfl ?_
                              refine y (ev_loadN (u := intsV [o.t0, o.t1, o.t2, o.t3]) rfl Try.isAgg33 Try.sizeOf33 (by repeat first | exact .z | apply In.s) rfl rfl) rfl ?_
                              refine yg1 rfl rfl ?_
                              refine y (ev_loadN (u := intsV B.tab) rfl Try.isAgg33 Try.sizeOf33 (by repeat first | exact .z | apply In.s) (by rw [List.drop_zero, List.take_of_length_le (by simp [intsV, htB])]) (by simp [intsV, htB])) rfl ?_
                              refine yg1 rfl rfl ?_
                              refine y (ev_neqI (k := 4) rfl rfl (by kernel_rfl) (by kernel_rfl) (by kernel_rfl) rfl htB) rfl ?_
                              refine y (ev_pick1 rfl rfl) rfl ?_
                              refine ynil' (kthn (hK36 _ _ ?_))
                              clear hK36
                              refine ccond rfl (fun h201 => ?_) (fun h201 => ?_)
                              · (try simp only [decide_eq_true_eq, beq_iff_eq, beq_eq_false_iff_ne, decide_eq_decide, decide_eq_false_iff_not, Bool.not_eq_true', Bool.not_eq_false', Bool.not_eq_true, Bool.not_eq_false, Bool.not_not, ne_eq, Option.isNone_some, Option.isSome_some, Option.isNone_none, Option.isSome_none] at h201)
                                exfalso; exact absurd (hload (by assumption) (by assumption) (by assumption)) h201
                              · (try simp only [decide_eq_true_eq, beq_iff_eq, beq_eq_false_iff_ne, decide_eq_decide, decide_eq_false_iff_not, Bool.not_eq_true', Bool.not_eq_false', Bool.not_eq_true, Bool.not_eq_false, Bool.not_not, ne_eq, Option.isNone_some, Option.isSome_some, Option.isNone_none, Option.isSome_none] at h201)
                                refine cskip' (kbn (kthn (hK11 _ _ ?_)))
                                clear hK11
                                refine creg ?_
                                refine y (ev_move rfl) rfl ?_
                                refine y (ev_add rfl rfl) rfl ?_
                                rw [show IntKind.i64.wrap ((z:Int) + 1) = ((z+1 : Nat) : Int) by rw [wr (by omega) (by omega)]; rfl]
                                refine y (ev_assign rfl) rfl ?_
                                refine ynil' (kthn ?_)
                                exact hL1 ((z + 1, D65)) (⟨hG65, by dsimp only; omega, by dsimp only; omega⟩) (by dsimp only; omega) _ _ (by repeat first | exact sub_nil | refine sub_cons rfl ?_ | refine sub_cons' rfl (by simp) ?_) (by repeat first | exact .refl | exact .nil | exact .z | apply Pk.s | refine Ge.e ?_ | apply Ge.pick | apply Ge.drop)
                            · (try simp only [decide_eq_true_eq, beq_iff_eq, beq_eq_false_iff_ne, decide_eq_decide, decide_eq_false_iff_not, Bool.not_eq_true', Bool.not_eq_false', Bool.not_eq_true, Bool.not_eq_false, Bool.not_not, ne_eq, Option.isNone_some, Option.isSome_some, Option.isNone_none, Option.isSome_none] at h195)
                              refine yg0 rfl rfl rfl rfl ?_
                              refine yg0 rfl rfl rfl rfl ?_
                              refine yg0 rfl rfl rfl rfl ?_
                              refine yg0 rfl rfl rfl rfl ?_
                              refine y (ev_pick0 rfl rfl) rfl ?_
                              refine ynil' (kthn (hK36 _ _ ?_))
                              clear hK36
                              refine ccond0 rfl ?_
                              refine cskip' (kbn (kthn (hK11 _ _ ?_)))
                              clear hK11
                              refine creg ?_
                              refine y (ev_move rfl) rfl ?_
                              refine y (ev_add rfl rfl) rfl ?_
                              rw [show IntKind.i64.wrap ((z:Int) + 1) = ((z+1 : Nat) : Int) by rw [wr (by omega) (by omega)]; rfl]
                              refine y (ev_assign rfl) rfl ?_
                              refine ynil' (kthn ?_)
                              exact hL1 ((z + 1, D65)) (⟨hG65, by dsimp only; omega, by dsimp only; omega⟩) (by dsimp only; omega) _ _ (by repeat first | exact sub_nil | refine sub_cons rfl ?_ | refine sub_cons' rfl (by simp) ?_) (by repeat first | exact .refl | exact .nil | exact .z | apply Pk.s | refine Ge.e ?_ | apply Ge.pick | apply Ge.drop)
                          · (try simp only [decide_eq_true_eq, beq_iff_eq, beq_eq_false_iff_ne, decide_eq_decide, decide_eq_false_iff_not, Bool.not_eq_true', Bool.not_eq_false', Bool.not_eq_true, Bool.not_eq_false, Bool.not_not, ne_eq, Option.isNone_some, Option.isSome_some, Option.isNone_none, Option.isSome_none] at h189)
                            refine yg0 rfl rfl rfl rfl ?_
                            refine yg0 rfl rfl rfl rfl ?_
                            refine yg0 rfl rfl rfl rfl ?_
                            refine y (ev_pick0 rfl rfl) rfl ?_
                            refine y (ev_move rfl) rfl ?_
                            refine yg0 rfl rfl rfl rfl ?_
                            refine yg0 rfl rfl rfl rfl ?_
                            refine yg0 rfl rfl rfl rfl ?_
                            refine yg0 rfl rfl rfl rfl ?_
                            refine y (ev_pick0 rfl rfl) rfl ?_
                            refine ynil' (kthn (hK36 _ _ ?_))
                            clear hK36
                            refine ccond0 rfl ?_
                            refine cskip' (kbn (kthn (hK11 _ _ ?_)))
                            clear hK11
                            refine creg ?_
                            refine y (ev_move rfl) rfl ?_
                            refine y (ev_add rfl rfl) rfl ?_
                            rw [show IntKind.i64.wrap ((z:Int) + 1) = ((z+1 : Nat) : Int) by rw [wr (by omega) (by omega)]; rfl]
                            refine y (ev_assign rfl) rfl ?_
                            refine ynil' (kthn ?_)
                            exact hL1 ((z + 1, D65)) (⟨hG65, by dsimp only; omega, by dsimp only; omega⟩) (by dsimp only; omega) _ _ (by repeat first | exact sub_nil | refine sub_cons rfl ?_ | refine sub_cons' rfl (by simp) ?_) (by repeat first | exact .refl | exact .nil | exact .z | apply Pk.s | refine Ge.e ?_ | apply Ge.pick | apply Ge.drop)
                        · (try simp only [decide_eq_true_eq, beq_iff_eq, beq_eq_false_iff_ne, decide_eq_decide, decide_eq_false_iff_not, Bool.not_eq_true', Bool.not_eq_false', Bool.not_eq_true, Bool.not_eq_false, Bool.not_not, ne_eq, Option.isNone_some, Option.isSome_some, Option.isNone_none, Option.isSome_none] at h183)
                          refine yg0 rfl rfl rfl rfl ?_
                          refine yg0 rfl rfl rfl rfl ?_
                          refine yg0 rfl rfl rfl rfl ?_
                          refine y (ev_pick0 rfl rfl) rfl ?_
                          refine y (ev_move rfl) rfl ?_
                          refine yg0 rfl rfl rfl rfl ?_
                          refine yg0 rfl rfl rfl rfl ?_
                          refine yg0 rfl rfl rfl rfl ?_
                          refine y (ev_pick0 rfl rfl) rfl ?_
                          refine y (ev_move rfl) rfl ?_
                          refine yg0 rfl rfl rfl rfl ?_
                          refine yg0 rfl rfl rfl rfl ?_
                          refine yg0 rfl rfl rfl rfl ?_
                          refine yg0 rfl rfl rfl rfl ?_
                          refine y (ev_pick0 rfl rfl) rfl ?_
                          refine ynil' (kthn (hK36 _ _ ?_))
                          clear hK36
                          refine ccond0 rfl ?_
                          refine cskip' (kbn (kthn (hK11 _ _ ?_)))
                          clear hK11
                          refine creg ?_
                          refine y (ev_move rfl) rfl ?_
                          refine y (ev_add rfl rfl) rfl ?_
                          rw [show IntKind.i64.wrap ((z:Int) + 1) = ((z+1 : Nat) : Int) by rw [wr (by omega) (by omega)]; rfl]
                          refine y (ev_assign rfl) rfl ?_
                          refine ynil' (kthn ?_)
                          exact hL1 ((z + 1, D65)) (⟨hG65, by dsimp only; omega, by dsimp only; omega⟩) (by dsimp only; omega) _ _ (by repeat first | exact sub_nil | refine sub_cons rfl ?_ | refine sub_cons' rfl (by simp) ?_) (by repeat first | exact .refl | exact .nil | exact .z | apply Pk.s | refine Ge.e ?_ | apply Ge.pick | apply Ge.drop)
                      clear hK34
                      refine cblock ?_
                      refine cloop (A := Nat) (fun x => [(127, i64 x), (17, .bool fr), (15, ptr b15), (13, ptr b13), (14, .bool is), (9, ptr b9), (8, i64 z), (6, ptr X23.s), (7, i64 n), (1, lv)]) (fun x => [sc b15 (intsV B.tab) 33, sc b13 o.cells 35, sc b9 m.cells 35, stG X23 D65 n] ++ R) (fun x => x ≤ 4) (fun x => 4 - x) (0) ?_ (by repeat first | exact sub_nil | refine sub_cons rfl ?_ | refine sub_cons' rfl (by simp) ?_) (by repeat first | exact .refl | exact .nil | exact .z | apply Pk.s | refine Ge.e ?_ | apply Ge.pick | apply Ge.drop) ?_
                      · exact Nat.zero_le _
                      rintro i hI3 KL3 hL3
                      have hI3o := hI3
                      have hi3 := hI3
                      refine cseq ?_; intro K37 hK37
                      refine creg ?_
                      refine y (ev_lss rfl rfl) rfl ?_
                      refine ynil' (kthn (hK37 _ _ ?_))
                      clear hK37
                      refine cseq ?_; intro K38 hK38
                      refine ccond rfl (fun h224 => ?_) (fun h224 => ?_)
                      · (try simp only [decide_eq_true_eq, beq_iff_eq, beq_eq_false_iff_ne, decide_eq_decide, decide_eq_false_iff_not, Bool.not_eq_true', Bool.not_eq_false', Bool.not_eq_true, Bool.not_eq_false, Bool.not_not, ne_eq, Option.isNone_some, Option.isSome_some, Option.isNone_none, Option.isSome_none] at h224)
                        refine cskip' (kthn (hK38 _ _ ?_))
                        clear hK38
                        refine cseq ?_; intro K39 hK39
                        refine cblock ?_
                        refine cseq ?_; intro K40 hK40
                        refine creg ?_
                        refine y (ev_move rfl) rfl ?_
                        refine y (ev_assign rfl) rfl ?_
                        refine ynil' (kthn (hK40 _ _ ?_))
                        clear hK40
                        refine cseq ?_; intro K41 hK41
                        refine cdraw 10 [(0, true), (1, true), (2, true), (3, true), (4, true), (5, true), (6, true), (7, true), (8, true), (9, true)] (_) Try.mixed (by kernel_rfl) .refl ?_
                        refine hr rfl (ev_move rfl) rfl ?_
                        refine hr rfl (ev_move rfl) rfl ?_
                        refine hsplit 131 rfl (fun h229 => ?_) (fun h229 => ?_)
                        · (try simp only [decide_eq_true_eq, beq_iff_eq, beq_eq_false_iff_ne, decide_eq_decide, decide_eq_false_iff_not, Bool.not_eq_true', Bool.not_eq_false', Bool.not_eq_true, Bool.not_eq_false, Bool.not_not, ne_eq, Option.isNone_some, Option.isSome_some, Option.isNone_none, Option.isSome_none] at h229)
                          obtain ⟨hfT, hfC⟩ := hfr h229
                          refine hr1 rfl rfl rfl (ev_move rfl) rfl ?_
                          refine hr1 rfl rfl rfl (ev_ixAddrA rfl rfl Try.underlying33 Try.sizeOf2 (by omega) (by omega)) rfl ?_
                          refine hr1 rfl rfl rfl (ev_load rfl Try.isAgg2 (by repeat first | exact .z | apply In.s) (by simpa using intsV_get (getd_get (d := 0) (show i < B.tab.length by omega)))) rfl ?_
                          refine hr1 rfl rfl rfl (ev_move rfl) rfl ?_
                          refine hr1 rfl rfl rfl (ev_fieldAddr 7 rfl Try.underlying35 rfl Try.sizeOf33) rfl ?_
                          refine hr1 rfl rfl rfl (ev_ixAddrA rfl rfl Try.underlying33 Try.sizeOf2 (by omega) (by omega)) rfl ?_
                          refine hr1 rfl rfl rfl (ev_load rfl Try.isAgg2 (by repeat first | exact .z | apply In.s) (by simpa using msg_tn (m := m) (show i < 4 by omega))) rfl ?_
                          refine hr1 rfl rfl rfl (ev_lss rfl rfl) rfl ?_
                          refine hnil ?_
                          refine y (ev_pick1 rfl rfl) rfl ?_
                          refine hnoP' (kthn (hK41 _ _ ?_))
                          clear hK41
                          refine ccond rfl (fun h239 => ?_) (fun h239 => ?_)
                          · (try simp only [decide_eq_true_eq, beq_iff_eq, beq_eq_false_iff_ne, decide_eq_decide, decide_eq_false_iff_not, Bool.not_eq_true', Bool.not_eq_false', Bool.not_eq_true, Bool.not_eq_false, Bool.not_not, ne_eq, Option.isNone_some, Option.isSome_some, Option.isNone_none, Option.isSome_none] at h239)
                            exfalso; have := hfT i (by omega); simp only [List.getD_eq_getElem?_getD] at *; omega
                          · (try simp only [decide_eq_true_eq, beq_iff_eq, beq_eq_false_iff_ne, decide_eq_decide, decide_eq_false_iff_not, Bool.not_eq_true', Bool.not_eq_false', Bool.not_eq_true, Bool.not_eq_false, Bool.not_not, ne_eq, Option.isNone_some, Option.isSome_some, Option.isNone_none, Option.isSome_none] at h239)
                            refine cskip' (kbn (kthn (hK39 _ _ ?_)))
                            clear hK39
                            refine creg ?_
                            refine y (ev_add rfl rfl) rfl ?_
                            rw [show IntKind.i64.wrap ((i:Int) + 1) = ((i+1 : Nat) : Int) by rw [wr (by omega) (by omega)]; rfl]
                            refine y (ev_move rfl) rfl ?_
                            refine ynil' (kthn ?_)
                            exact hL3 (i + 1) (by omega) (by omega) _ _ (by repeat first | exact sub_nil | refine sub_cons rfl ?_ | refine sub_cons' rfl (by simp) ?_) (by repeat first | exact .refl | exact .nil | exact .z | apply Pk.s | refine Ge.e ?_ | apply Ge.pick | apply Ge.drop)
                        · (try simp only [decide_eq_true_eq, beq_iff_eq, beq_eq_false_iff_ne, decide_eq_decide, decide_eq_false_iff_not, Bool.not_eq_true', Bool.not_eq_false', Bool.not_eq_true, Bool.not_eq_false, Bool.not_not, ne_eq, Option.isNone_some, Option.isSome_some, Option.isNone_none, Option.isSome_none] at h229)
                          refine hr0 rfl rfl rfl rfl rfl ?_
                          refine hr0 rfl rfl rfl rfl rfl ?_
                          refine hr0 rfl rfl rfl rfl rfl ?_
                          refine hr0 rfl rfl rfl rfl rfl ?_
                          refine hr0 rfl rfl rfl rfl rfl ?_
                          refine hr0 rfl rfl rfl rfl rfl ?_
                          refine hr0 rfl rfl rfl rfl rfl ?_
                          refine hr0 rfl rfl rfl rfl rfl ?_
                          refine hnil ?_
                          refine y (ev_pick0 rfl rfl) rfl ?_
                          refine hnoP' (kthn (hK41 _ _ ?_))
                          clear hK41
                          refine ccond0 rfl ?_
                          refine cskip' (kbn (kthn (hK39 _ _ ?_)))
                          clear hK39
                          refine creg ?_
                          refine y (ev_add rfl rfl) rfl ?_
                          rw [show IntKind.i64.wrap ((i:Int) + 1) = ((i+1 : Nat) : Int) by rw [wr (by omega) (by omega)]; rfl]
                          refine y (ev_move rfl) rfl ?_
                          refine ynil' (kthn ?_)
                          exact hL3 (i + 1) (by omega) (by omega) _ _ (by repeat first | exact sub_nil | refine sub_cons rfl ?_ | refine sub_cons' rfl (by simp) ?_) (by repeat first | exact .refl | exact .nil | exact .z | apply Pk.s | refine Ge.e ?_ | apply Ge.pick | apply Ge.drop)
                      · (try simp only [decide_eq_true_eq, beq_iff_eq, beq_eq_false_iff_ne, decide_eq_decide, decide_eq_false_iff_not, Bool.not_eq_true', Bool.not_eq_false', Bool.not_eq_true, Bool.not_eq_false, Bool.not_not, ne_eq, Option.isNone_some, Option.isSome_some, Option.isNone_none, Option.isSome_none] at h224)
                        refine cexit (kthx (kthx (kbx (kthn ?_))))
                        exact ksub (by repeat first | exact sub_nil | refine sub_cons rfl ?_ | refine sub_cons' rfl (by simp) ?_) (by repeat first | exact .refl | exact .nil | exact .z | apply Pk.s | refine Ge.e ?_ | apply Ge.pick | apply Ge.drop) (hJ3 i ⟨hI3o, by first | trivial | omega⟩)
                  · (try simp only [decide_eq_true_eq, beq_iff_eq, beq_eq_false_iff_ne, decide_eq_decide, decide_eq_false_iff_not, Bool.not_eq_true', Bool.not_eq_false', Bool.not_eq_true, Bool.not_eq_false, Bool.not_not, ne_eq, Option.isNone_some, Option.isSome_some, Option.isNone_none, Option.isSome_none] at h98)
                    refine hr0 rfl rfl rfl rfl rfl ?_
                    refine hr0 rfl rfl rfl rfl rfl ?_
                    refine hr0 rfl rfl rfl rfl rfl ?_
                    refine hr rfl (ev_pick0 rfl rfl) rfl ?_
                    refine hr rfl (ev_move rfl) rfl ?_
                    refine hr0 rfl rfl rfl rfl rfl ?_
                    refine hr0 rfl rfl rfl rfl rfl ?_
                    refine hr0 rfl rfl rfl rfl rfl ?_
                    refine hr0 rfl rfl rfl rfl rfl ?_
                    refine hr0 rfl rfl rfl rfl rfl ?_
                    refine hr0 rfl rfl rfl rfl rfl ?_
                    refine hr0 rfl rfl rfl rfl rfl ?_
                    refine hnil ?_
                    refine y (ev_pick0 rfl rfl) rfl ?_
                    refine hnoP' (kthn (hK25 _ _ ?_))
                    clear hK25
                    refine ccond0 rfl ?_
                    refine cskip' (kthn (hK24 _ _ ?_))
                    clear hK24
                    refine cseq ?_; intro K42 hK42
                    refine cseq ?_; intro K43 hK43
                    refine creg ?_
                    refine y (ev_move rfl) rfl ?_
                    refine ynil' (kthn (hK43 _ _ ?_))
                    clear hK43
                    have hJ3 : ∀ x : Nat, ((x ≤ 4) ∧ (x = 4)) → Sk 159 K42 ([(127, i64 x), (17, .bool fr), (15, ptr b15), (13, ptr b13), (14, .bool is), (9, ptr b9), (8, i64 z), (6, ptr X23.s), (7, i64 n), (1, lv)]) ([sc b15 (intsV B.tab) 33, sc b13 o.cells 35, sc b9 m.cells 35, stG X23 D65 n] ++ R) := by
                      rintro i ⟨hI3, hX3⟩
                      refine hK42 _ _ ?_
                      have hi3 := hI3
                      refine cseq ?_; intro K44 hK44
                      refine creg ?_
                      refine y (ev_move rfl) rfl ?_
                      refine y (ev_move rfl) rfl ?_
                      refine ysplit 143 rfl (fun h251 => ?_) (fun h251 => ?_)
                      · (try simp only [decide_eq_true_eq, beq_iff_eq, beq_eq_false_iff_ne, decide_eq_decide, decide_eq_false_iff_not, Bool.not_eq_true', Bool.not_eq_false', Bool.not_eq_true, Bool.not_eq_false, Bool.not_not, ne_eq, Option.isNone_some, Option.isSome_some, Option.isNone_none, Option.isSome_none] at h251)
                        refine yg1 rfl rfl ?_
                        refine y (ev_fieldAddr 6 rfl Try.underlying35 rfl Try.sizeOf32) rfl ?_
                        refine yg1 rfl rfl ?_
                        refine y (ev_load rfl Try.isAgg32 (by repeat first | exact .z | apply In.s) rfl) rfl ?_
                        refine yg1 rfl rfl ?_
                        refine y (ev_eql rfl rfl) rfl ?_
                        refine y (ev_pick1 rfl rfl) rfl ?_
                        refine y (ev_move rfl) rfl ?_
                        refine ysplit 148 rfl (fun h257 => ?_) (fun h257 => ?_)
                        · (try simp only [decide_eq_true_eq, beq_iff_eq, beq_eq_false_iff_ne, decide_eq_decide, decide_eq_false_iff_not, Bool.not_eq_true', Bool.not_eq_false', Bool.not_eq_true, Bool.not_eq_false, Bool.not_not, ne_eq, Option.isNone_some, Option.isSome_some, Option.isNone_none, Option.isSome_none] at h257)
                          refine yg1 rfl rfl ?_
                          refine y (ev_fieldAddr 0 rfl Try.underlying35 rfl Try.sizeOf3) rfl ?_
                          refine yg1 rfl rfl ?_
                          refine y (ev_load rfl Try.isAgg3 (by repeat first | exact .z | apply In.s) rfl) rfl ?_
                          refine yg1 rfl rfl ?_
                          refine y (ev_eql rfl rfl) rfl ?_
                          refine y (ev_pick1 rfl rfl) rfl ?_
                          refine y (ev_move rfl) rfl ?_
                          refine ysplit 153 rfl (fun h263 => ?_) (fun h263 => ?_)
                          · (try simp only [decide_eq_true_eq, beq_iff_eq, beq_eq_false_iff_ne, decide_eq_decide, decide_eq_false_iff_not, Bool.not_eq_true', Bool.not_eq_false', Bool.not_eq_true, Bool.not_eq_false, Bool.not_not, ne_eq, Option.isNone_some, Option.isSome_some, Option.isNone_none, Option.isSome_none] at h263)
                            refine yg1 rfl rfl ?_
                            refine y (ev_fieldAddr 7 rfl Try.underlying35 rfl Try.sizeOf33) rfl ?_
                            refine yg1 rfl rfl ?_
                            refine y (ev_loadN (u := intsV [o.t0, o.t1, o.t2, o.t3]) rfl Try.isAgg33 Try.sizeOf33 (by repeat first | exact .z | apply In.s) rfl rfl) rfl ?_
                            refine yg1 rfl rfl ?_
                            refine y (ev_loadN (u := intsV B.tab) rfl Try.isAgg33 Try.sizeOf33 (by repeat first | exact .z | apply In.s) (by rw [List.drop_zero, List.take_of_length_le (by simp [intsV, htB])]) (by simp [intsV, htB])) rfl ?_
                            refine yg1 rfl rfl ?_
                            refine y (ev_neqI (k := 4) rfl rfl (by kernel_rfl) (by kernel_rfl) (by kernel_rfl) rfl htB) rfl ?_
                            refine y (ev_pick1 rfl rfl) rfl ?_
                            refine ynil' (kthn (hK44 _ _ ?_))
                            clear hK44
                            refine ccond rfl (fun h269 => ?_) (fun h269 => ?_)
                            · (try simp only [decide_eq_true_eq, beq_iff_eq, beq_eq_false_iff_ne, decide_eq_decide, decide_eq_false_iff_not, Bool.not_eq_true', Bool.not_eq_false', Bool.not_eq_true, Bool.not_eq_false, Bool.not_not, ne_eq, Option.isNone_some, Option.isSome_some, Option.isNone_none, Option.isSome_none] at h269)
                              exfalso; exact absurd (hload (by assumption) (by assumption) (by assumption)) h269
                            · (try simp only [decide_eq_true_eq, beq_iff_eq, beq_eq_false_iff_ne, decide_eq_decide, decide_eq_false_iff_not, Bool.not_eq_true', Bool.not_eq_false', Bool.not_eq_true, Bool.not_eq_false, Bool.not_not, ne_eq, Option.isNone_some, Option.isSome_some, Option.isNone_none, Option.isSome_none] at h269)
                              refine cskip' (kbn (kthn (hK11 _ _ ?_)))
                              clear hK11
                              refine creg ?_
                              refine y (ev_move rfl) rfl ?_
                              refine y (ev_add rfl rfl) rfl ?_
                              rw [show IntKind.i64.wrap ((z:Int) + 1) = ((z+1 : Nat) : Int) by rw [wr (by omega) (by omega)]; rfl]
                              refine y (ev_assign rfl) rfl ?_
                              refine ynil' (kthn ?_)
                              exact hL1 ((z + 1, D65)) (⟨hG65, by dsimp only; omega, by dsimp only; omega⟩) (by dsimp only; omega) _ _ (by repeat first | exact sub_nil | refine sub_cons rfl ?_ | refine sub_cons' rfl (by simp) ?_) (by repeat first | exact .refl | exact .nil | exact .z | apply Pk.s | refine Ge.e ?_ | apply Ge.pick | apply Ge.drop)
                          · (try simp only [decide_eq_true_eq, beq_iff_eq, beq_eq_false_iff_ne, decide_eq_decide, decide_eq_false_iff_not, Bool.not_eq_true', Bool.not_eq_false', Bool.not_eq_true, Bool.not_eq_false, Bool.not_not, ne_eq, Option.isNone_some, Option.isSome_some, Option.isNone_none, Option.isSome_none] at h263)
                            refine yg0 rfl rfl rfl rfl ?_
                            refine yg0 rfl rfl rfl rfl ?_
                            refine yg0 rfl rfl rfl rfl ?_
                            refine yg0 rfl rfl rfl rfl ?_
                            refine y (ev_pick0 rfl rfl) rfl ?_
                            refine ynil' (kthn (hK44 _ _ ?_))
                            clear hK44
                            refine ccond0 rfl ?_
                            refine cskip' (kbn (kthn (hK11 _ _ ?_)))
                            clear hK11
                            refine creg ?_
                            refine y (ev_move rfl) rfl ?_
                            refine y (ev_add rfl rfl) rfl ?_
                            rw [show IntKind.i64.wrap ((z:Int) + 1) = ((z+1 : Nat) : Int) by rw [wr (by omega) (by omega)]; rfl]
                            refine y (ev_assign rfl) rfl ?_
                            refine ynil' (kthn ?_)
                            exact hL1 ((z + 1, D65)) (⟨hG65, by dsimp only; omega, by dsimp only; omega⟩) (by dsimp only; omega) _ _ (by repeat first | exact sub_nil | refine sub_cons rfl ?_ | refine sub_cons' rfl (by simp) ?_) (by repeat first | exact .refl | exact .nil | exact .z | apply Pk.s | refine Ge.e ?_ | apply Ge.pick | apply Ge.drop)
                        · (try simp only [decide_eq_true_eq, beq_iff_eq, beq_eq_false_iff_ne, decide_eq_decide, decide_eq_false_iff_not, Bool.not_eq_true', Bool.not_eq_false', Bool.not_eq_true, Bool.not_eq_false, Bool.not_not, ne_eq, Option.isNone_some, Option.isSome_some, Option.isNone_none, Option.isSome_none] at h257)
                          refine yg0 rfl rfl rfl rfl ?_
                          refine yg0 rfl rfl rfl rfl ?_
                          refine yg0 rfl rfl rfl rfl ?_
                          refine y (ev_pick0 rfl rfl) rfl ?_
                          refine y (ev_move rfl) rfl ?_
                          refine yg0 rfl rfl rfl rfl ?_
                          refine yg0 rfl rfl rfl rfl ?_
                          refine yg0 rfl rfl rfl rfl ?_
                          refine yg0 rfl rfl rfl rfl ?_
                          refine y (ev_pick0 rfl rfl) rfl ?_
                          refine ynil' (kthn (hK44 _ _ ?_))
                          clear hK44
                          refine ccond0 rfl ?_
                          refine cskip' (kbn (kthn (hK11 _ _ ?_)))
                          clear hK11
                          refine creg ?_
                          refine y (ev_move rfl) rfl ?_
                          refine y (ev_add rfl rfl) rfl ?_
                          rw [show IntKind.i64.wrap ((z:Int) + 1) = ((z+1 : Nat) : Int) by rw [wr (by omega) (by omega)]; rfl]
                          refine y (ev_assign rfl) rfl ?_
                          refine ynil' (kthn ?_)
                          exact hL1 ((z + 1, D65)) (⟨hG65, by dsimp only; omega, by dsimp only; omega⟩) (by dsimp only; omega) _ _ (by repeat first | exact sub_nil | refine sub_cons rfl ?_ | refine sub_cons' rfl (by simp) ?_) (by repeat first | exact .refl | exact .nil | exact .z | apply Pk.s | refine Ge.e ?_ | apply Ge.pick | apply Ge.drop)
                      · (try simp only [decide_eq_true_eq, beq_iff_eq, beq_eq_false_iff_ne, decide_eq_decide, decide_eq_false_iff_not, Bool.not_eq_true', Bool.not_eq_false', Bool.not_eq_true, Bool.not_eq_false, Bool.not_not, ne_eq, Option.isNone_some, Option.isSome_some, Option.isNone_none, Option.isSome_none] at h251)
                        refine yg0 rfl rfl rfl rfl ?_
                        refine yg0 rfl rfl rfl rfl ?_
                        refine yg0 rfl rfl rfl rfl ?_
                        refine y (ev_pick0 rfl rfl) rfl ?_
                        refine y (ev_move rfl) rfl ?_
                        refine yg0 rfl rfl rfl rfl ?_
                        refine yg0 rfl rfl rfl rfl ?_
                        refine yg0 rfl rfl rfl rfl ?_
                        refine y (ev_pick0 rfl rfl) rfl ?_
                        refine y (ev_move rfl) rfl ?_
                        refine yg0 rfl rfl rfl rfl ?_
                        refine yg0 rfl rfl rfl rfl ?_
                        refine yg0 rfl rfl rfl rfl ?_
                        refine yg0 rfl rfl rfl rfl ?_
                        refine y (ev_pick0 rfl rfl) rfl ?_
                        refine ynil' (kthn (hK44 _ _ ?_))
                        clear hK44
                        refine ccond0 rfl ?_
                        refine cskip' (kbn (kthn (hK11 _ _ ?_)))
                        clear hK11
                        refine creg ?_
                        refine y (ev_move rfl) rfl ?_
                        refine y (ev_add rfl rfl) rfl ?_
                        rw [show IntKind.i64.wrap ((z:Int) + 1) = ((z+1 : Nat) : Int) by rw [wr (by omega) (by omega)]; rfl]
                        refine y (ev_assign rfl) rfl ?_
                        refine ynil' (kthn ?_)
                        exact hL1 ((z + 1, D65)) (⟨hG65, by dsimp only; omega, by dsimp only; omega⟩) (by dsimp only; omega) _ _ (by repeat first | exact sub_nil | refine sub_cons rfl ?_ | refine sub_cons' rfl (by simp) ?_) (by repeat first | exact .refl | exact .nil | exact .z | apply Pk.s | refine Ge.e ?_ | apply Ge.pick | apply Ge.drop)
                    clear hK42
                    refine cblock ?_
                    refine cloop (A := Nat) (fun x => [(127, i64 x), (17, .bool fr), (15, ptr b15), (13, ptr b13), (14, .bool is), (9, ptr b9), (8, i64 z), (6, ptr X23.s), (7, i64 n), (1, lv)]) (fun x => [sc b15 (intsV B.tab) 33, sc b13 o.cells 35, sc b9 m.cells 35, stG X23 D65 n] ++ R) (fun x => x ≤ 4) (fun x => 4 - x) (0) ?_ (by repeat first | exact sub_nil | refine sub_cons rfl ?_ | refine sub_cons' rfl (by simp) ?_) (by repeat first | exact .refl | exact .nil | exact .z | apply Pk.s | refine Ge.e ?_ | apply Ge.pick | apply Ge.drop) ?_
                    · exact Nat.zero_le _
                    rintro i hI3 KL3 hL3
                    have hI3o := hI3
                    have hi3 := hI3
                    refine cseq ?_; intro K45 hK45
                    refine creg ?_
                    refine y (ev_lss rfl rfl) rfl ?_
                    refine ynil' (kthn (hK45 _ _ ?_))
                    clear hK45
                    refine cseq ?_; intro K46 hK46
                    refine ccond rfl (fun h292 => ?_) (fun h292 => ?_)
                    · (try simp only [decide_eq_true_eq, beq_iff_eq, beq_eq_false_iff_ne, decide_eq_decide, decide_eq_false_iff_not, Bool.not_eq_true', Bool.not_eq_false', Bool.not_eq_true, Bool.not_eq_false, Bool.not_not, ne_eq, Option.isNone_some, Option.isSome_some, Option.isNone_none, Option.isSome_none] at h292)
                      refine cskip' (kthn (hK46 _ _ ?_))
                      clear hK46
                      refine cseq ?_; intro K47 hK47
                      refine cblock ?_
                      refine cseq ?_; intro K48 hK48
                      refine creg ?_
                      refine y (ev_move rfl) rfl ?_
                      refine y (ev_assign rfl) rfl ?_
                      refine ynil' (kthn (hK48 _ _ ?_))
                      clear hK48
                      refine cseq ?_; intro K49 hK49
                      refine cdraw 10 [(0, true), (1, true), (2, true), (3, true), (4, true), (5, true), (6, true), (7, true), (8, true), (9, true)] (_) Try.mixed (by kernel_rfl) .refl ?_
                      refine hr rfl (ev_move rfl) rfl ?_
                      refine hr rfl (ev_move rfl) rfl ?_
                      refine hsplit 131 rfl (fun h297 => ?_) (fun h297 => ?_)
                      · (try simp only [decide_eq_true_eq, beq_iff_eq, beq_eq_false_iff_ne, decide_eq_decide, decide_eq_false_iff_not, Bool.not_eq_true', Bool.not_eq_false', Bool.not_eq_true, Bool.not_eq_false, Bool.not_not, ne_eq, Option.isNone_some, Option.isSome_some, Option.isNone_none, Option.isSome_none] at h297)
                        obtain ⟨hfT, hfC⟩ := hfr h297
                        refine hr1 rfl rfl rfl (ev_move rfl) rfl ?_
                        refine hr1 rfl rfl rfl (ev_ixAddrA rfl rfl Try.underlying33 Try.sizeOf2 (by omega) (by omega)) rfl ?_
                        refine hr1 rfl rfl rfl (ev_load rfl Try.isAgg2 (by repeat first | exact .z | apply In.s) (by simpa using intsV_get (getd_get (d := 0) (show i < B.tab.length by omega)))) rfl ?_
                        refine hr1 rfl rfl rfl (ev_move rfl) rfl ?_
                        refine hr1 rfl rfl rfl (ev_fieldAddr 7 rfl Try.underlying35 rfl Try.sizeOf33) rfl ?_
                        refine hr1 rfl rfl rfl (ev_ixAddrA rfl rfl Try.underlying33 Try.sizeOf2 (by omega) (by omega)) rfl ?_
                        refine hr1 rfl rfl rfl (ev_load rfl Try.isAgg2 (by repeat first | exact .z | apply In.s) (by simpa using msg_tn (m := m) (show i < 4 by omega))) rfl ?_
                        refine hr1 rfl rfl rfl (ev_lss rfl rfl) rfl ?_
                        refine hnil ?_
                        refine y (ev_pick1 rfl rfl) rfl ?_
                        refine hnoP' (kthn (hK49 _ _ ?_))
                        clear hK49
                        refine ccond rfl (fun h307 => ?_) (fun h307 => ?_)
                        · (try simp only [decide_eq_true_eq, beq_iff_eq, beq_eq_false_iff_ne, decide_eq_decide, decide_eq_false_iff_not, Bool.not_eq_true', Bool.not_eq_false', Bool.not_eq_true, Bool.not_eq_false, Bool.not_not, ne_eq, Option.isNone_some, Option.isSome_some, Option.isNone_none, Option.isSome_none] at h307)
                          exfalso; have := hfT i (by omega); simp only [List.getD_eq_getElem?_getD] at *; omega
                        · (try simp only [decide_eq_true_eq, beq_iff_eq, beq_eq_false_iff_ne, decide_eq_decide, decide_eq_false_iff_not, Bool.not_eq_true', Bool.not_eq_false', Bool.not_eq_true, Bool.not_eq_false, Bool.not_not, ne_eq, Option.isNone_some, Option.isSome_some, Option.isNone_none, Option.isSome_none] at h307)
                          refine cskip' (kbn (kthn (hK47 _ _ ?_)))
                          clear hK47
                          refine creg ?_
                          refine y (ev_add rfl rfl) rfl ?_
                          rw [show IntKind.i64.wrap ((i:Int) + 1) = ((i+1 : Nat) : Int) by rw [wr (by omega) (by omega)]; rfl]
                          refine y (ev_move rfl) rfl ?_
                          refine ynil' (kthn ?_)
                          exact hL3 (i + 1) (by omega) (by omega) _ _ (by repeat first | exact sub_nil | refine sub_cons rfl ?_ | refine sub_cons' rfl (by simp) ?_) (by repeat first | exact .refl | exact .nil | exact .z | apply Pk.s | refine Ge.e ?_ | apply Ge.pick | apply Ge.drop)
                      · (try simp only [decide_eq_true_eq, beq_iff_eq, beq_eq_false_iff_ne, decide_eq_decide, decide_eq_false_iff_not, Bool.not_eq_true', Bool.not_eq_false', Bool.not_eq_true, Bool.not_eq_false, Bool.not_not, ne_eq, Option.isNone_some, Option.isSome_some, Option.isNone_none, Option.isSome_none] at h297)
                        refine hr0 rfl rfl rfl rfl rfl ?_
                        refine hr0 rfl rfl rfl rfl rfl ?_
                        refine hr0 rfl rfl rfl rfl rfl ?_
                        refine hr0 rfl rfl rfl rfl rfl ?_
                        refine hr0 rfl rfl rfl rfl rfl ?_
                        refine hr0 rfl rfl rfl rfl rfl ?_
                        refine hr0 rfl rfl rfl rfl rfl ?_
                        refine hr0 rfl rfl rfl rfl rfl ?_
                        refine hnil ?_
                        refine y (ev_pick0 rfl rfl) rfl ?_
                        refine hnoP' (kthn (hK49 _ _ ?_))
                        clear hK49
                        refine ccond0 rfl ?_
                        refine cskip' (kbn (kthn (hK47 _ _ ?_)))
                        clear hK47
                        refine creg ?_
                        refine y (ev_add rfl rfl) rfl ?_
                        rw [show IntKind.i64.wrap ((i:Int) + 1) = ((i+1 : Nat) : Int) by rw [wr (by omega) (by omega)]; rfl]
                        refine y (ev_move rfl) rfl ?_
                        refine ynil' (kthn ?_)
                        exact hL3 (i + 1) (by omega) (by omega) _ _ (by repeat first | exact sub_nil | refine sub_cons rfl ?_ | refine sub_cons' rfl (by simp) ?_) (by repeat first | exact .refl | exact .nil | exact .z | apply Pk.s | refine Ge.e ?_ | apply Ge.pick | apply Ge.drop)
                    · (try simp only [decide_eq_true_eq, beq_iff_eq, beq_eq_false_iff_ne, decide_eq_decide, decide_eq_false_iff_not, Bool.not_eq_true', Bool.not_eq_false', Bool.not_eq_true, Bool.not_eq_false, Bool.not_not, ne_eq, Option.isNone_some, Option.isSome_some, Option.isNone_none, Option.isSome_none] at h292)
                      refine cexit (kthx (kthx (kbx (kthn ?_))))
                      exact ksub (by repeat first | exact sub_nil | refine sub_cons rfl ?_ | refine sub_cons' rfl (by simp) ?_) (by repeat first | exact .refl | exact .nil | exact .z | apply Pk.s | refine Ge.e ?_ | apply Ge.pick | apply Ge.drop) (hJ3 i ⟨hI3o, by first | trivial | omega⟩)
                clear hK23
                refine creg ?_
                refine y (ev_move rfl) rfl ?_
                refine y (ev_move rfl) rfl ?_
                refine ysplit 82 rfl (fun h315 => ?_) (fun h315 => ?_)
                · (try simp only [decide_eq_true_eq, beq_iff_eq, beq_eq_false_iff_ne, decide_eq_decide, decide_eq_false_iff_not, Bool.not_eq_true', Bool.not_eq_false', Bool.not_eq_true, Bool.not_eq_false, Bool.not_not, ne_eq, Option.isNone_some, Option.isSome_some, Option.isNone_none, Option.isSome_none] at h315)
                  refine yg1 rfl rfl ?_
                  refine y (ev_fieldAddr 6 rfl Try.underlying35 rfl Try.sizeOf32) rfl ?_
                  refine yg1 rfl rfl ?_
                  refine y (ev_load rfl Try.isAgg32 (by repeat first | exact .z | apply In.s) rfl) rfl ?_
                  refine yg1 rfl rfl ?_
                  refine y (ev_eql rfl rfl) rfl ?_
                  refine y (ev_pick1 rfl rfl) rfl ?_
                  refine y (ev_move rfl) rfl ?_
                  refine ysplit 87 rfl (fun h321 => ?_) (fun h321 => ?_)
                  · (try simp only [decide_eq_true_eq, beq_iff_eq, beq_eq_false_iff_ne, decide_eq_decide, decide_eq_false_iff_not, Bool.not_eq_true', Bool.not_eq_false', Bool.not_eq_true, Bool.not_eq_false, Bool.not_not, ne_eq, Option.isNone_some, Option.isSome_some, Option.isNone_none, Option.isSome_none] at h321)
                    refine yg1 rfl rfl ?_
                    refine y (ev_fieldAddr 0 rfl Try.underlying35 rfl Try.sizeOf3) rfl ?_
                    refine yg1 rfl rfl ?_
                    refine y (ev_load rfl Try.isAgg3 (by repeat first | exact .z | apply In.s) rfl) rfl ?_
                    refine yg1 rfl rfl ?_
                    refine y (ev_eql rfl rfl) rfl ?_
                    refine y (ev_pick1 rfl rfl) rfl ?_
                    refine y (ev_move rfl) rfl ?_
                    refine ysplit 92 rfl (fun h327 => ?_) (fun h327 => ?_)
                    · (try simp only [decide_eq_true_eq, beq_iff_eq, beq_eq_false_iff_ne, decide_eq_decide, decide_eq_false_iff_not, Bool.not_eq_true', Bool.not_eq_false', Bool.not_eq_true, Bool.not_eq_false, Bool.not_not, ne_eq, Option.isNone_some, Option.isSome_some, Option.isNone_none, Option.isSome_none] at h327)
                      refine yg1 rfl rfl ?_
                      refine y (ev_fieldAddr 4 rfl Try.underlying35 rfl Try.sizeOf3) rfl ?_
                      refine yg1 rfl rfl ?_
                      refine y (ev_load rfl Try.isAgg3 (by repeat first | exact .z | apply In.s) rfl) rfl ?_
                      refine yg1 rfl rfl ?_
                      refine y (ev_geq rfl rfl) rfl ?_
                      refine y (ev_pick1 rfl rfl) rfl ?_
                      refine y (ev_move rfl) rfl ?_
                      refine ysplit 97 rfl (fun h333 => ?_) (fun h333 => ?_)
                      · (try simp only [decide_eq_true_eq, beq_iff_eq, beq_eq_false_iff_ne, decide_eq_decide, decide_eq_false_iff_not, Bool.not_eq_true', Bool.not_eq_false', Bool.not_eq_true, Bool.not_eq_false, Bool.not_not, ne_eq, Option.isNone_some, Option.isSome_some, Option.isNone_none, Option.isSome_none] at h333)
                        refine yg1 rfl rfl ?_
                        refine y (ev_fieldAddr 4 rfl Try.underlying35 rfl Try.sizeOf3) rfl ?_
                        refine yg1 rfl rfl ?_
                        refine y (ev_load rfl Try.isAgg3 (by repeat first | exact .z | apply In.s) rfl) rfl ?_
                        refine yg1 rfl rfl ?_
                        refine y (ev_move rfl) rfl ?_
                        refine yg1 rfl rfl ?_
                        refine y (ev_lss rfl rfl) rfl ?_
                        refine y (ev_pick1 rfl rfl) rfl ?_
                        refine y (ev_move rfl) rfl ?_
                        refine ysplit 103 rfl (fun h340 => ?_) (fun h340 => ?_)
                        · (try simp only [decide_eq_true_eq, beq_iff_eq, beq_eq_false_iff_ne, decide_eq_decide, decide_eq_false_iff_not, Bool.not_eq_true', Bool.not_eq_false', Bool.not_eq_true, Bool.not_eq_false, Bool.not_not, ne_eq, Option.isNone_some, Option.isSome_some, Option.isNone_none, Option.isSome_none] at h340)
                          refine yg1 rfl rfl ?_
                          refine y (ev_fieldAddr 1 rfl Try.underlying35 rfl Try.sizeOf2) rfl ?_
                          refine yg1 rfl rfl ?_
                          refine y (ev_load rfl Try.isAgg2 (by repeat first | exact .z | apply In.s) rfl) rfl ?_
                          refine yg1 rfl rfl ?_
                          refine y (ev_fieldAddr 2 rfl Try.underlying35 rfl Try.sizeOf2) rfl ?_
                          refine yg1 rfl rfl ?_
                          refine y (ev_load rfl Try.isAgg2 (by repeat first | exact .z | apply In.s) rfl) rfl ?_
                          refine yg1 rfl rfl ?_
                          refine y (ev_build (vs := [i64 m.epoch, i64 m.seq]) (zs := _) rfl Try.underlying50 Try.zeroValue50 rfl (.cons Try.sizeOf2 (.cons Try.sizeOf2 .nil)) ⟨⟨_, _, rfl, (by first | rfl | simp), (by first | decide | simp)⟩, ⟨⟨_, _, rfl, (by first | rfl | simp), (by first | decide | simp)⟩, trivial⟩⟩ (by dsimp [fillL, splice, vcells] <;> rfl)) rfl ?_
                          refine yg1 rfl rfl ?_
                          refine y (ev_loadAll rfl Try.isAgg50 Try.sizeOf50 (by repeat first | exact .z | apply In.s) (by first | rfl | assumption | (simp [*]; done) | (simp [*]; omega))) rfl ?_
                          refine yg1 rfl rfl ?_
                          refine ycall (bAbove) rfl Try.call26 (by repeat first | exact .nil | exact .z | apply Pk.s | apply Tk.cons) rfl ?_
                          rintro v L' ⟨rfl, rfl⟩
                          refine y (ev_pick1 rfl rfl) rfl ?_
                          refine y (ev_assign rfl) rfl ?_
                          refine ynil' (kthn ?_)
                          exact ksub (by repeat first | exact sub_nil | refine sub_cons rfl ?_ | refine sub_cons' rfl (by simp) ?_) (by repeat first | exact .refl | exact .nil | exact .z | apply Pk.s | refine Ge.e ?_ | apply Ge.pick | apply Ge.drop) (hJr23 _ (by intro hx; first | (cases hx; done) | (exact hfresh (by assumption) (by assumption) (by assumption) (inN_iff.2 ⟨by omega, by omega⟩) (above_old hx))))
                        · (try simp only [decide_eq_true_eq, beq_iff_eq, beq_eq_false_iff_ne, decide_eq_decide, decide_eq_false_iff_not, Bool.not_eq_true', Bool.not_eq_false', Bool.not_eq_true, Bool.not_eq_false, Bool.not_not, ne_eq, Option.isNone_some, Option.isSome_some, Option.isNone_none, Option.isSome_none] at h340)
                          refine yg0 rfl rfl rfl rfl ?_
                          refine yg0 rfl rfl rfl rfl ?_
                          refine yg0 rfl rfl rfl rfl ?_
                          refine yg0 rfl rfl rfl rfl ?_
                          refine yg0 rfl rfl rfl rfl ?_
                          refine yg0 rfl rfl rfl rfl ?_
                          refine yg0 rfl rfl rfl rfl ?_
                          refine y (ev_pick0 rfl rfl) rfl ?_
                          refine y (ev_assign rfl) rfl ?_
                          refine ynil' (kthn ?_)
                          exact ksub (by repeat first | exact sub_nil | refine sub_cons rfl ?_ | refine sub_cons' rfl (by simp) ?_) (by repeat first | exact .refl | exact .nil | exact .z | apply Pk.s | refine Ge.e ?_ | apply Ge.pick | apply Ge.drop) (hJr23 _ (by intro hx; first | (cases hx; done) | (exact hfresh (by assumption) (by assumption) (by assumption) (inN_iff.2 ⟨by omega, by omega⟩) (above_old hx))))
                      · (try simp only [decide_eq_true_eq, beq_iff_eq, beq_eq_false_iff_ne, decide_eq_decide, decide_eq_false_iff_not, Bool.not_eq_true', Bool.not_eq_false', Bool.not_eq_true, Bool.not_eq_false, Bool.not_not, ne_eq, Option.isNone_some, Option.isSome_some, Option.isNone_none, Option.isSome_none] at h333)
                        refine yg0 rfl rfl rfl rfl ?_
                        refine yg0 rfl rfl rfl rfl ?_
                        refine yg0 rfl rfl rfl rfl ?_
                        refine yg0 rfl rfl rfl rfl ?_
                        refine y (ev_pick0 rfl rfl) rfl ?_
                        refine y (ev_move rfl) rfl ?_
                        refine yg0 rfl rfl rfl rfl ?_
                        refine yg0 rfl rfl rfl rfl ?_
                        refine yg0 rfl rfl rfl rfl ?_
                        refine yg0 rfl rfl rfl rfl ?_
                        refine yg0 rfl rfl rfl rfl ?_
                        refine yg0 rfl rfl rfl rfl ?_
                        refine yg0 rfl rfl rfl rfl ?_
                        refine y (ev_pick0 rfl rfl) rfl ?_
                        refine y (ev_assign rfl) rfl ?_
                        refine ynil' (kthn ?_)
                        exact ksub (by repeat first | exact sub_nil | refine sub_cons rfl ?_ | refine sub_cons' rfl (by simp) ?_) (by repeat first | exact .refl | exact .nil | exact .z | apply Pk.s | refine Ge.e ?_ | apply Ge.pick | apply Ge.drop) (hJr23 _ (by intro hx; first | (cases hx; done) | (exact hfresh (by assumption) (by assumption) (by assumption) (inN_iff.2 ⟨by omega, by omega⟩) (above_old hx))))
                    · (try simp only [decide_eq_true_eq, beq_iff_eq, beq_eq_false_iff_ne, decide_eq_decide, decide_eq_false_iff_not, Bool.not_eq_true', Bool.not_eq_false', Bool.not_eq_true, Bool.not_eq_false, Bool.not_not, ne_eq, Option.isNone_some, Option.isSome_some, Option.isNone_none, Option.isSome_none] at h327)
                      refine yg0 rfl rfl rfl rfl ?_
                      refine yg0 rfl rfl rfl rfl ?_
                      refine yg0 rfl rfl rfl rfl ?_
                      refine y (ev_pick0 rfl rfl) rfl ?_
                      refine y (ev_move rfl) rfl ?_
                      refine yg0 rfl rfl rfl rfl ?_
                      refine yg0 rfl rfl rfl rfl ?_
                      refine yg0 rfl rfl rfl rfl ?_
                      refine yg0 rfl rfl rfl rfl ?_
                      refine y (ev_pick0 rfl rfl) rfl ?_
                      refine y (ev_move rfl) rfl ?_
                      refine yg0 rfl rfl rfl rfl ?_
                      refine yg0 rfl rfl rfl rfl ?_
                      refine yg0 rfl rfl rfl rfl ?_
                      refine yg0 rfl rfl rfl rfl ?_
                      refine yg0 rfl rfl rfl rfl ?_
                      refine yg0 rfl rfl rfl rfl ?_
                      refine yg0 rfl rfl rfl rfl ?_
                      refine y (ev_pick0 rfl rfl) rfl ?_
                      refine y (ev_assign rfl) rfl ?_
                      refine ynil' (kthn ?_)
                      exact ksub (by repeat first | exact sub_nil | refine sub_cons rfl ?_ | refine sub_cons' rfl (by simp) ?_) (by repeat first | exact .refl | exact .nil | exact .z | apply Pk.s | refine Ge.e ?_ | apply Ge.pick | apply Ge.drop) (hJr23 _ (by intro hx; first | (cases hx; done) | (exact hfresh (by assumption) (by assumption) (by assumption) (inN_iff.2 ⟨by omega, by omega⟩) (above_old hx))))
                  · (try simp only [decide_eq_true_eq, beq_iff_eq, beq_eq_false_iff_ne, decide_eq_decide, decide_eq_false_iff_not, Bool.not_eq_true', Bool.not_eq_false', Bool.not_eq_true, Bool.not_eq_false, Bool.not_not, ne_eq, Option.isNone_some, Option.isSome_some, Option.isNone_none, Option.isSome_none] at h321)
                    refine yg0 rfl rfl rfl rfl ?_
                    refine yg0 rfl rfl rfl rfl ?_
                    refine yg0 rfl rfl rfl rfl ?_
                    refine y (ev_pick0 rfl rfl) rfl ?_
                    refine y (ev_move rfl) rfl ?_
                    refine yg0 rfl rfl rfl rfl ?_
                    refine yg0 rfl rfl rfl rfl ?_
                    refine yg0 rfl rfl rfl rfl ?_
                    refine y (ev_pick0 rfl rfl) rfl ?_
                    refine y (ev_move rfl) rfl ?_
                    refine yg0 rfl rfl rfl rfl ?_
                    refine yg0 rfl rfl rfl rfl ?_
                    refine yg0 rfl rfl rfl rfl ?_
                    refine yg0 rfl rfl rfl rfl ?_
                    refine y (ev_pick0 rfl rfl) rfl ?_
                    refine y (ev_move rfl) rfl ?_
                    refine yg0 rfl rfl rfl rfl ?_
                    refine yg0 rfl rfl rfl rfl ?_
                    refine yg0 rfl rfl rfl rfl ?_
                    refine yg0 rfl rfl rfl rfl ?_
                    refine yg0 rfl rfl rfl rfl ?_
                    refine yg0 rfl rfl rfl rfl ?_
                    refine yg0 rfl rfl rfl rfl ?_
                    refine y (ev_pick0 rfl rfl) rfl ?_
                    refine y (ev_assign rfl) rfl ?_
                    refine ynil' (kthn ?_)
                    exact ksub (by repeat first | exact sub_nil | refine sub_cons rfl ?_ | refine sub_cons' rfl (by simp) ?_) (by repeat first | exact .refl | exact .nil | exact .z | apply Pk.s | refine Ge.e ?_ | apply Ge.pick | apply Ge.drop) (hJr23 _ (by intro hx; first | (cases hx; done) | (exact hfresh (by assumption) (by assumption) (by assumption) (inN_iff.2 ⟨by omega, by omega⟩) (above_old hx))))
                · (try simp only [decide_eq_true_eq, beq_iff_eq, beq_eq_false_iff_ne, decide_eq_decide, decide_eq_false_iff_not, Bool.not_eq_true', Bool.not_eq_false', Bool.not_eq_true, Bool.not_eq_false, Bool.not_not, ne_eq, Option.isNone_some, Option.isSome_some, Option.isNone_none, Option.isSome_none] at h315)
                  refine yg0 rfl rfl rfl rfl ?_
                  refine yg0 rfl rfl rfl rfl ?_
                  refine yg0 rfl rfl rfl rfl ?_
                  refine y (ev_pick0 rfl rfl) rfl ?_
                  refine y (ev_move rfl) rfl ?_
                  refine yg0 rfl rfl rfl rfl ?_
                  refine yg0 rfl rfl rfl rfl ?_
                  refine yg0 rfl rfl rfl rfl ?_
                  refine y (ev_pick0 rfl rfl) rfl ?_
                  refine y (ev_move rfl) rfl ?_
                  refine yg0 rfl rfl rfl rfl ?_
                  refine yg0 rfl rfl rfl rfl ?_
                  refine yg0 rfl rfl rfl rfl ?_
                  refine y (ev_pick0 rfl rfl) rfl ?_
                  refine y (ev_move rfl) rfl ?_
                  refine yg0 rfl rfl rfl rfl ?_
                  refine yg0 rfl rfl rfl rfl ?_
                  refine yg0 rfl rfl rfl rfl ?_
                  refine yg0 rfl rfl rfl rfl ?_
                  refine y (ev_pick0 rfl rfl) rfl ?_
                  refine y (ev_move rfl) rfl ?_
                  refine yg0 rfl rfl rfl rfl ?_
                  refine yg0 rfl rfl rfl rfl ?_
                  refine yg0 rfl rfl rfl rfl ?_
                  refine yg0 rfl rfl rfl rfl ?_
                  refine yg0 rfl rfl rfl rfl ?_
                  refine yg0 rfl rfl rfl rfl ?_
                  refine yg0 rfl rfl rfl rfl ?_
                  refine y (ev_pick0 rfl rfl) rfl ?_
                  refine y (ev_assign rfl) rfl ?_
                  refine ynil' (kthn ?_)
                  exact ksub (by repeat first | exact sub_nil | refine sub_cons rfl ?_ | refine sub_cons' rfl (by simp) ?_) (by repeat first | exact .refl | exact .nil | exact .z | apply Pk.s | refine Ge.e ?_ | apply Ge.pick | apply Ge.drop) (hJr23 _ (by intro hx; first | (cases hx; done) | (exact hfresh (by assumption) (by assumption) (by assumption) (inN_iff.2 ⟨by omega, by omega⟩) (above_old hx))))
              clear hK21
              refine cblock ?_
              refine cloop (A := Nat) (fun x => [(70, i64 x), (15, ptr b15), (10, ptr b10), (11, ptr b11), (13, ptr b13), (14, .bool is), (9, ptr b9), (8, i64 z), (6, ptr X23.s), (7, i64 n), (1, lv)]) (fun x => [sc b15 (intsV B.tab) 33, sc b10 (intsV A.tab) 33, sc b11 [i64 (A.getB m.block).v0, i64 (A.getB m.block).v1] 50, sc b13 o.cells 35, sc b9 m.cells 35, stG X23 D65 n] ++ R) (fun x => x ≤ 4) (fun x => 4 - x) (0) ?_ (by repeat first | exact sub_nil | refine sub_cons rfl ?_ | refine sub_cons' rfl (by simp) ?_) (by repeat first | exact .refl | exact .nil | exact .z | apply Pk.s | refine Ge.e ?_ | apply Ge.pick | apply Ge.drop) ?_
              · exact Nat.zero_le _
              rintro i hI2 KL2 hL2
              have hI2o := hI2
              have hi2 := hI2
              refine cseq ?_; intro K50 hK50
              refine creg ?_
              refine y (ev_lss rfl rfl) rfl ?_
              refine ynil' (kthn (hK50 _ _ ?_))
              clear hK50
              refine cseq ?_; intro K51 hK51
              refine ccond rfl (fun h381 => ?_) (fun h381 => ?_)
              · (try simp only [decide_eq_true_eq, beq_iff_eq, beq_eq_false_iff_ne, decide_eq_decide, decide_eq_false_iff_not, Bool.not_eq_true', Bool.not_eq_false', Bool.not_eq_true, Bool.not_eq_false, Bool.not_not, ne_eq, Option.isNone_some, Option.isSome_some, Option.isNone_none, Option.isSome_none] at h381)
                refine cskip' (kthn (hK51 _ _ ?_))
                clear hK51
                refine cseq ?_; intro K52 hK52
                refine cblock ?_
                refine cseq ?_; intro K53 hK53
                refine creg ?_
                refine y (ev_move rfl) rfl ?_
                refine y (ev_assign rfl) rfl ?_
                refine ynil' (kthn (hK53 _ _ ?_))
                clear hK53
                refine cseq ?_; intro K54 hK54
                refine cdraw 6 [(0, true), (1, true), (2, true), (3, true), (4, true), (5, true)] (_) Try.mixed (by kernel_rfl) .refl ?_
                refine hr rfl (ev_move rfl) rfl ?_
                refine hr rfl (ev_ixAddrA rfl rfl Try.underlying33 Try.sizeOf2 (by omega) (by omega)) rfl ?_
                refine hr rfl (ev_load rfl Try.isAgg2 (by repeat first | exact .z | apply In.s) (by simpa using intsV_get (getd_get (d := 0) (show i < B.tab.length by omega)))) rfl ?_
                refine hr rfl (ev_move rfl) rfl ?_
                refine hr rfl (ev_ixAddrA rfl rfl Try.underlying33 Try.sizeOf2 (by omega) (by omega)) rfl ?_
                refine hr rfl (ev_load rfl Try.isAgg2 (by repeat first | exact .z | apply In.s) (by simpa using intsV_get (getd_get (d := 0) (show i < A.tab.length by omega)))) rfl ?_
                refine hnil ?_
                refine y (ev_lss rfl rfl) rfl ?_
                refine hnoP' (kthn (hK54 _ _ ?_))
                clear hK54
                refine ccond rfl (fun h391 => ?_) (fun h391 => ?_)
                · (try simp only [decide_eq_true_eq, beq_iff_eq, beq_eq_false_iff_ne, decide_eq_decide, decide_eq_false_iff_not, Bool.not_eq_true', Bool.not_eq_false', Bool.not_eq_true, Bool.not_eq_false, Bool.not_not, ne_eq, Option.isNone_some, Option.isSome_some, Option.isNone_none, Option.isSome_none] at h391)
                  exfalso; have := hge i (by omega); simp only [List.getD_eq_getElem?_getD] at *; omega
                · (try simp only [decide_eq_true_eq, beq_iff_eq, beq_eq_false_iff_ne, decide_eq_decide, decide_eq_false_iff_not, Bool.not_eq_true', Bool.not_eq_false', Bool.not_eq_true, Bool.not_eq_false, Bool.not_not, ne_eq, Option.isNone_some, Option.isSome_some, Option.isNone_none, Option.isSome_none] at h391)
                  refine cskip' (kbn (kthn (hK52 _ _ ?_)))
                  clear hK52
                  refine creg ?_
                  refine y (ev_add rfl rfl) rfl ?_
                  rw [show IntKind.i64.wrap ((i:Int) + 1) = ((i+1 : Nat) : Int) by rw [wr (by omega) (by omega)]; rfl]
                  refine y (ev_move rfl) rfl ?_
                  refine ynil' (kthn ?_)
                  exact hL2 (i + 1) (by omega) (by omega) _ _ (by repeat first | exact sub_nil | refine sub_cons rfl ?_ | refine sub_cons' rfl (by simp) ?_) (by repeat first | exact .refl | exact .nil | exact .z | apply Pk.s | refine Ge.e ?_ | apply Ge.pick | apply Ge.drop)
              · (try simp only [decide_eq_true_eq, beq_iff_eq, beq_eq_false_iff_ne, decide_eq_decide, decide_eq_false_iff_not, Bool.not_eq_true', Bool.not_eq_false', Bool.not_eq_true, Bool.not_eq_false, Bool.not_not, ne_eq, Option.isNone_some, Option.isSome_some, Option.isNone_none, Option.isSome_none] at h381)
                refine cexit (kthx (kthx (kbx (kthn ?_))))
                exact ksub (by repeat first | exact sub_nil | refine sub_cons rfl ?_ | refine sub_cons' rfl (by simp) ?_) (by repeat first | exact .refl | exact .nil | exact .z | apply Pk.s | refine Ge.e ?_ | apply Ge.pick | apply Ge.drop) (hJ2 i ⟨hI2o, by first | trivial | omega⟩)
        · (try simp only [decide_eq_true_eq, beq_iff_eq, beq_eq_false_iff_ne, decide_eq_decide, decide_eq_false_iff_not, Bool.not_eq_true', Bool.not_eq_false', Bool.not_eq_true, Bool.not_eq_false, Bool.not_not, ne_eq, Option.isNone_some, Option.isSome_some, Option.isNone_none, Option.isSome_none] at h46)
          refine cexit (kthx (kthx (kbx (kthn (hK7 _ _ ?_)))))
          clear hK7
          refine cseq ?_; intro K55 hK55
          refine creg ?_
          refine y (ev_assign rfl) rfl ?_
          refine ynil' (kthn (hK55 _ _ ?_))
          clear hK55
          refine cret ?_
          first
            | (exfalso; omega; done)
            | (refine kretv Try.results6 rfl (L1 := R) (by repeat first | exact .refl | exact .nil | exact .z | apply Pk.s | refine Ge.e ?_ | apply Ge.pick | apply Ge.drop) ?_
               exact ⟨_, ⟨by first | rfl | (exfalso; simp_all; done), rfl⟩, by first | rfl | (exfalso; simp_all; done)⟩)
      · (try simp only [decide_eq_true_eq, beq_iff_eq, beq_eq_false_iff_ne, decide_eq_decide, decide_eq_false_iff_not, Bool.not_eq_true', Bool.not_eq_false', Bool.not_eq_true, Bool.not_eq_false, Bool.not_not, ne_eq, Option.isNone_some, Option.isSome_some, Option.isNone_none, Option.isSome_none] at h42)
        refine yg0 rfl rfl rfl rfl ?_
        refine yg0 rfl rfl rfl rfl ?_
        refine y (ev_pick0 rfl rfl) rfl ?_
        refine ynil' (kthn (hK10 _ _ ?_))
        clear hK10
        refine ccond0 rfl ?_
        refine cexit (kthx (kthx (kbx (kthn (hK7 _ _ ?_)))))
        clear hK7
        refine cseq ?_; intro K56 hK56
        refine creg ?_
        refine y (ev_assign rfl) rfl ?_
        refine ynil' (kthn (hK56 _ _ ?_))
        clear hK56
        refine cret ?_
        first
          | (exfalso; omega; done)
          | (refine kretv Try.results6 rfl (L1 := R) (by repeat first | exact .refl | exact .nil | exact .z | apply Pk.s | refine Ge.e ?_ | apply Ge.pick | apply Ge.drop) ?_
             exact ⟨_, ⟨by first | rfl | (exfalso; simp_all; done), rfl⟩, by first | rfl | (exfalso; simp_all; done)⟩)
end W
end Go.Proofs
