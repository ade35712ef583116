/- A part of the proof: contracts and plain lemmas, each without conditions beyond those that it names. -/
import Derived.Test.YtebijajimmjknaaB11
set_option linter.unusedVariables false
set_option linter.unusedSimpArgs false
set_option linter.constructorNameAsVariable false
namespace Go.Proofs
open Go Go.Sl
namespace W
set_option linter.unusedVariables false
theorem lawBAnew [Env] {R : List Seg} {bv : Int} {lv : Value} {l : List MsgM} (hb : 0 ≤ bv ∧ bv ≤ 255) (hv : RdV R lv l.length (msgsV l)) :
    Con Try.prog 7 [.int .u8 bv, lv] [] R (Is (.bool true) []) := by
  have hvl := hv.lenVal
  refine con_enter Try.func7 Try.ntmps7 rfl rfl ?_
  refine cseq ?_; intro K1 hK1
  refine creg ?_
  refine y (ev_assign rfl) rfl ?_
  refine ynil' (kthn (hK1 _ _ ?_))
  clear hK1
  refine cseq ?_; intro K2 hK2
  refine cseq ?_; intro K3 hK3
  refine creg ?_
  refine ycall (bAwake) rfl Try.call20 (by repeat first | exact .nil | exact .z | apply Pk.s | apply Tk.cons) rfl ?_
  rintro v L' ⟨rfl, rfl⟩
  skip
  · skip
    refine y (ev_not rfl) rfl ?_
    refine ynil' (kthn (hK3 _ _ ?_))
    clear hK3
    refine ccond0 rfl ?_
    refine cskip' (kthn (hK2 _ _ ?_))
    clear hK2
    refine cseq ?_; intro K4 hK4
    refine creg ?_
    refine y (ev_move rfl) rfl ?_
    refine ycall (bNewG ?bl5) rfl Try.call21 (by repeat first | exact .nil | exact .z | apply Pk.s | apply Tk.cons) rfl ?_
    case bl5 => exact hb
    rintro v L' ⟨X20, hX20, rfl, rfl⟩
    obtain ⟨n1, n32⟩ := nBl_le bv
    generalize hn0 : nBl bv = n at *
    generalize Dev.new (2 + 2 * n) = D0 at *
    refine y (ev_move rfl) rfl ?_
    refine y (ev_extract rfl rfl) rfl ?_
    refine y (ev_extract rfl rfl) rfl ?_
    refine y (ev_extract rfl rfl) rfl ?_
    refine y (ev_assign rfl) rfl ?_
    refine y (ev_assign rfl) rfl ?_
    refine y (ev_assign rfl) rfl ?_
    refine ynil' (kthn (hK4 _ _ ?_))
    clear hK4
    refine cseq ?_; intro K5 hK5
    refine cseq ?_; intro K6 hK6
    refine creg ?_
    refine y (ev_move rfl) rfl ?_
    skip
    · skip
      refine y (ev_eqlPnil rfl rfl Try.underlying42) rfl ?_
      refine ynil' (kthn (hK6 _ _ ?_))
      clear hK6
      refine ccond0 rfl ?_
      refine cskip' (kthn (hK5 _ _ ?_))
      clear hK5
      refine cseq ?_; intro K7 hK7
      refine cseq ?_; intro K8 hK8
      refine creg ?_
      refine y (ev_assign rfl) rfl ?_
      refine ynil' (kthn (hK8 _ _ ?_))
      clear hK8
      have hJ1 : ∀ x : Nat × Dev, ((SGood X20.ps x.2 n x.1 ∧ x.1 ≤ l.length ∧ x.1 ≤ 60) ∧ (True)) → Sk 113 K7 ([(8, i64 x.1), (5, dp X20.q), (6, ptr X20.s), (7, i64 n), (1, lv)]) ([stG X20 x.2 n] ++ R) := by
        rintro ⟨z, D⟩ ⟨hI1, hX1⟩
        refine hK7 _ _ ?_
        obtain ⟨hG, hz1, hz2⟩ := hI1; dsimp only at hG hz1 hz2 ⊢
        skip
        refine cseq ?_; intro K9 hK9
        refine creg ?_
        refine yreP (L' := [stoP X20.s X20.t X20.ps (openS D 0 n), celP X20.t X20.q (openS D 0 n).tok, celsP X20.ps X20.q (openS D 0 n).cs, dev X20.q D] ++ R) stG_in ?_
        have hw := hG.wf
        have htl := hw.tab
        refine y (ev_move rfl) rfl ?_
        refine y (ev_move rfl) rfl ?_
        refine ycall (gOpen (n := n) rfl n1 n32 hG.live) rfl Try.call27 (by repeat first | exact .nil | exact .z | apply Pk.s | apply Tk.cons) rfl ?_
        rintro v L' ⟨s2, t2, ps2, hps2, rfl, rfl⟩
        have hw2 := openS_wf (D := D) (f := 0) hps2 n32
        generalize openS D 0 n = S at *
        refine y (ev_move rfl) rfl ?_
        refine y (ev_extract rfl rfl) rfl ?_
        refine y (ev_extract rfl rfl) rfl ?_
        refine y (ev_assign rfl) rfl ?_
        refine y (ev_assign rfl) rfl ?_
        refine ynil' (kthn (hK9 _ _ ?_))
        clear hK9
        refine cseq ?_; intro K10 hK10
        refine cseq ?_; intro K11 hK11
        refine creg ?_
        refine y (ev_move rfl) rfl ?_
        skip
        · skip
          refine y (ev_eqlPnil rfl rfl Try.underlying42) rfl ?_
          refine y (ev_move rfl) rfl ?_
          refine yg1 rfl rfl ?_
          refine y (ev_move rfl) rfl ?_
          refine yg1 rfl rfl ?_
          refine y (ev_neq rfl rfl) rfl ?_
          refine y (ev_pick0 rfl rfl) rfl ?_
          refine y (ev_move rfl) rfl ?_
          refine yg1 rfl rfl ?_
          refine y (ev_move rfl) rfl ?_
          refine yg1 rfl rfl ?_
          refine ycall (bToken) rfl Try.call23 (by repeat first | exact .nil | exact .z | apply Pk.s | apply Tk.cons) rfl ?_
          rintro v L' ⟨rfl, rfl⟩
          refine yg1 rfl rfl ?_
          refine y (ev_move rfl) rfl ?_
          refine yg1 rfl rfl ?_
          refine ycall (bToken) rfl Try.call23 (by repeat first | exact .nil | exact .z | apply Pk.s | apply Tk.cons) rfl ?_
          rintro v L' ⟨rfl, rfl⟩
          refine yg1 rfl rfl ?_
          refine y (ev_neq rfl rfl) rfl ?_
          rw [show (!decide (S.epoch = S.epoch)) = false by simp]
          refine y (ev_pick0 rfl rfl) rfl ?_
          refine y (ev_move rfl) rfl ?_
          refine yg1 rfl rfl ?_
          refine y (ev_move rfl) rfl ?_
          refine yg1 rfl rfl ?_
          refine ycall (bTable hw2) rfl Try.call24 (by repeat first | exact .nil | exact .z | apply Pk.s | apply Tk.cons) rfl ?_
          rintro v L' ⟨rfl, rfl⟩
          refine yg1 rfl rfl ?_
          refine y (ev_move rfl) rfl ?_
          refine yg1 rfl rfl ?_
          refine ycall (bTable hw) rfl Try.call24 (by repeat first | exact .nil | exact .z | apply Pk.s | apply Tk.cons) rfl ?_
          rintro v L' ⟨rfl, rfl⟩
          refine yg1 rfl rfl ?_
          refine y (ev_neqI (k := 4) rfl rfl (by kernel_rfl) (by kernel_rfl) (by kernel_rfl) htl htl) rfl ?_
          rw [show (!decide (S.tab = S.tab)) = false by simp]
          refine y (ev_pick0 rfl rfl) rfl ?_
          refine ynil' (kthn (hK11 _ _ ?_))
          clear hK11
          refine ccond0 rfl ?_
          refine cskip' (kthn (hK10 _ _ ?_))
          clear hK10
          refine cseq ?_; intro K12 hK12
          refine cseq ?_; intro K13 hK13
          refine creg ?_
          refine y (ev_assign rfl) rfl ?_
          refine ynil' (kthn (hK13 _ _ ?_))
          clear hK13
          have hJ2 : ∀ x : Nat, ((x ≤ n + 2) ∧ (True)) → Sk 113 K12 ([(11, i64 ((x : Int) - 1)), (5, dp X20.q), (6, ptr X20.s), (9, ptr s2), (7, i64 n), (1, lv)]) ([stoP s2 t2 ps2 S, stoP X20.s X20.t X20.ps S, dev X20.q D] ++ R) := by
            rintro i ⟨hI2, hX2⟩
            refine hK12 _ _ ?_
            have hi2 := hI2
            skip
            refine cseq ?_; intro K14 hK14
            refine creg ?_
            refine y (ev_move rfl) rfl ?_
            refine ycall (secPending ?ok46) rfl Try.call28 (by repeat first | exact .nil | exact .z | apply Pk.s | apply Tk.cons) rfl ?_
            case ok46 => exact hG.live.ok
            rintro v L' ⟨s110, rfl, ok110, rfl⟩
            rw [hG.live.es] at ok110 ⊢
            first
              | refine y (ev_len rfl Try.underlying58) rfl ?_
              | refine y (ev_lenSv rfl Try.underlying58 (by assumption)) rfl ?_
              | refine y (ev_lenV rfl Try.underlying58 (RdV.lenVal (by assumption))) rfl ?_
              | refine y (ev_lenV rfl Try.underlying58 (RdB.lenVal (by assumption))) rfl ?_
            refine y (ev_eql rfl rfl) rfl ?_
            refine y (ev_assign rfl) rfl ?_
            refine ynil' (kthn (hK14 _ _ ?_))
            clear hK14
            refine cret ?_
            first
              | (exfalso; omega; done)
              | (refine kretv Try.results7 rfl (L1 := R) (by repeat first | exact .refl | exact .nil | exact .z | apply Pk.s | refine Ge.e ?_ | apply Ge.pick | apply Ge.drop) ?_
                 exact ⟨_, ⟨by first | rfl | (exfalso; simp_all; done), rfl⟩, by first | rfl | (exfalso; simp_all; done)⟩)
          clear hK12
          refine cblock ?_
          refine cloop (A := Nat) (fun x => [(11, i64 ((x : Int) - 1)), (5, dp X20.q), (6, ptr X20.s), (9, ptr s2), (7, i64 n), (1, lv)]) (fun x => [stoP s2 t2 ps2 S, stoP X20.s X20.t X20.ps S, dev X20.q D] ++ R) (fun x => x ≤ n + 2) (fun x => n + 2 - x) (0) ?_ (by repeat first | exact sub_nil | refine sub_cons rfl ?_ | refine sub_cons' rfl (by simp) ?_) (by repeat first | exact .refl | exact .nil | exact .z | apply Pk.s | refine Ge.e ?_ | apply Ge.pick | apply Ge.drop) ?_
          · exact Nat.zero_le _
          rintro i hI2 KL2 hL2
          have hI2o := hI2
          have hi2 := hI2
          refine cseq ?_; intro K15 hK15
          refine cseq ?_; intro K16 hK16
          refine creg ?_
          refine y (ev_move rfl) rfl ?_
          refine y (ev_move rfl) rfl ?_
          refine y (ev_leq rfl rfl) rfl ?_
          refine ynil' (kthn (hK16 _ _ ?_))
          clear hK16
          refine ccond rfl (fun h53 => ?_) (fun h53 => ?_)
          · (try simp only [decide_eq_true_eq, beq_iff_eq, beq_eq_false_iff_ne, decide_eq_decide, decide_eq_false_iff_not, Bool.not_eq_true', Bool.not_eq_false', Bool.not_eq_true, Bool.not_eq_false, Bool.not_not, ne_eq, Option.isNone_some, Option.isSome_some, Option.isNone_none, Option.isSome_none] at h53)
            refine cskip' (kthn (hK15 _ _ ?_))
            clear hK15
            refine cseq ?_; intro K17 hK17
            refine cblock ?_
            refine cseq ?_; intro K18 hK18
            refine creg ?_
            refine y (ev_move rfl) rfl ?_
            refine y (ev_move rfl) rfl ?_
            refine ycall (bGet hw) rfl Try.call25 (by repeat first | exact .nil | exact .z | apply Pk.s | apply Tk.cons) rfl ?_
            rintro v L' ⟨rfl, rfl⟩
            refine y (ev_move rfl) rfl ?_
            refine y (ev_extract rfl rfl) rfl ?_
            refine y (ev_extract rfl rfl) rfl ?_
            refine ya (ac_alloc Try.zeroValue50 rfl) rfl ?_
            rintro v L' ⟨b12, rfl, rfl⟩
            refine ya0 (ac_storeAll rfl rfl (by first | exact bytesV_one _ | (simp [Value.oneCell']; done) | (simp only [List.forall_mem_cons, List.not_mem_nil, false_implies, implies_true, svVal_one, and_true, true_and, and_self]; first | done | simp [Value.oneCell'])) Try.sizeOf50 (by repeat first | exact .z | apply Rp.s) (by first | rfl | assumption | (simp [*]; done) | (simp [*]; omega)) (by first | rfl | assumption | (simp [*]; done) | (simp [*]; omega))) ?_
            rintro v L' ⟨rfl, rfl⟩
            refine y (ev_assign rfl) rfl ?_
            refine ynil' (kthn (hK18 _ _ ?_))
            clear hK18
            refine cseq ?_; intro K19 hK19
            refine creg ?_
            refine y (ev_move rfl) rfl ?_
            refine y (ev_move rfl) rfl ?_
            refine ycall (bGet hw2) rfl Try.call25 (by repeat first | exact .nil | exact .z | apply Pk.s | apply Tk.cons) rfl ?_
            rintro v L' ⟨rfl, rfl⟩
            refine y (ev_move rfl) rfl ?_
            refine y (ev_extract rfl rfl) rfl ?_
            refine y (ev_extract rfl rfl) rfl ?_
            refine ya (ac_alloc Try.zeroValue50 rfl) rfl ?_
            rintro v L' ⟨b14, rfl, rfl⟩
            refine ya0 (ac_storeAll rfl rfl (by first | exact bytesV_one _ | (simp [Value.oneCell']; done) | (simp only [List.forall_mem_cons, List.not_mem_nil, false_implies, implies_true, svVal_one, and_true, true_and, and_self]; first | done | simp [Value.oneCell'])) Try.sizeOf50 (by repeat first | exact .z | apply Rp.s) (by first | rfl | assumption | (simp [*]; done) | (simp [*]; omega)) (by first | rfl | assumption | (simp [*]; done) | (simp [*]; omega))) ?_
            rintro v L' ⟨rfl, rfl⟩
            refine y (ev_assign rfl) rfl ?_
            refine ynil' (kthn (hK19 _ _ ?_))
            clear hK19
            refine cseq ?_; intro K20 hK20
            refine creg ?_
            refine y (ev_loadAll rfl Try.isAgg50 Try.sizeOf50 (by repeat first | exact .z | apply In.s) (by first | rfl | assumption | (simp [*]; done) | (simp [*]; omega))) rfl ?_
            refine y (ev_loadAll rfl Try.isAgg50 Try.sizeOf50 (by repeat first | exact .z | apply In.s) (by first | rfl | assumption | (simp [*]; done) | (simp [*]; omega))) rfl ?_
            skip
            · skip
              refine y (ev_neqF rfl rfl (by kernel_rfl) (by simp only [List.cons.injEq, Value.int.injEq, Value.string.injEq, Value.bool.injEq, str_inj, intsV_inj, MsgM.cells_inj, true_and, and_true]; exact Iff.rfl)) rfl ?_
              refine y (ev_move rfl) rfl ?_
              refine yg1 rfl rfl ?_
              refine y (ev_move rfl) rfl ?_
              refine yg1 rfl rfl ?_
              refine y (ev_move rfl) rfl ?_
              refine yg1 rfl rfl ?_
              first
                | refine y (ev_neqL rfl rfl) rfl ?_
                | refine y (ev_neqS rfl rfl) rfl ?_
              rw [show (decide ((S.getB ((i : Int) - 1)).data ≠ (S.getB ((i : Int) - 1)).data)) = false by simp]
              refine y (ev_pick0 rfl rfl) rfl ?_
              refine ynil' (kthn (hK20 _ _ ?_))
              clear hK20
              refine ccond0 rfl ?_
              refine cskip' (kbn (kthn (hK17 _ _ ?_)))
              clear hK17
              refine creg ?_
              refine y (ev_move rfl) rfl ?_
              refine y (ev_add rfl rfl) rfl ?_
              rw [wr (by omega) (by omega), show (i : Int) - 1 + 1 = ((i + 1 : Nat) : Int) - 1 by omega]
              refine y (ev_assign rfl) rfl ?_
              refine ynil' (kthn ?_)
              exact hL2 (i + 1) (by omega) (by omega) _ _ (by repeat first | exact sub_nil | refine sub_cons rfl ?_ | refine sub_cons' rfl (by simp) ?_) (by repeat first | exact .refl | exact .nil | exact .z | apply Pk.s | refine Ge.e ?_ | apply Ge.pick | apply Ge.drop)
          · (try simp only [decide_eq_true_eq, beq_iff_eq, beq_eq_false_iff_ne, decide_eq_decide, decide_eq_false_iff_not, Bool.not_eq_true', Bool.not_eq_false', Bool.not_eq_true, Bool.not_eq_false, Bool.not_not, ne_eq, Option.isNone_some, Option.isSome_some, Option.isNone_none, Option.isSome_none] at h53)
            refine cexit (kthx (kthx (kbx (kthn ?_))))
            exact ksub (by repeat first | exact sub_nil | refine sub_cons rfl ?_ | refine sub_cons' rfl (by simp) ?_) (by repeat first | exact .refl | exact .nil | exact .z | apply Pk.s | refine Ge.e ?_ | apply Ge.pick | apply Ge.drop) (hJ2 i ⟨hI2o, by first | trivial | omega⟩)
      clear hK7
      refine cblock ?_
      refine cloop (A := Nat × Dev) (fun x => [(8, i64 x.1), (5, dp X20.q), (6, ptr X20.s), (7, i64 n), (1, lv)]) (fun x => [stG X20 x.2 n] ++ R) (fun x => SGood X20.ps x.2 n x.1 ∧ x.1 ≤ l.length ∧ x.1 ≤ 60) (fun x => 60 - x.1) ((0, D0)) ?_ (by repeat first | exact sub_nil | refine sub_cons rfl ?_ | refine sub_cons' rfl (by simp) ?_) (by repeat first | exact .refl | exact .nil | exact .z | apply Pk.s | refine Ge.e ?_ | apply Ge.pick | apply Ge.drop) ?_
      · exact ⟨hX20, Nat.zero_le _, Nat.zero_le _⟩
      rintro ⟨z, D⟩ hI1 KL1 hL1
      have hI1o := hI1
      obtain ⟨hG, hz1, hz2⟩ := hI1; dsimp only at hG hz1 hz2 ⊢
      refine cseq ?_; intro K21 hK21
      refine cseq ?_; intro K22 hK22
      refine creg ?_
      refine y (ev_move rfl) rfl ?_
      refine y (ev_move rfl) rfl ?_
      first
        | refine y (ev_len rfl Try.underlying41) rfl ?_
        | refine y (ev_lenSv rfl Try.underlying41 (by assumption)) rfl ?_
        | refine y (ev_lenV rfl Try.underlying41 (RdV.lenVal (by assumption))) rfl ?_
        | refine y (ev_lenV rfl Try.underlying41 (RdB.lenVal (by assumption))) rfl ?_
      refine y (ev_lss rfl rfl) rfl ?_
      refine y (ev_move rfl) rfl ?_
      refine ysplit 30 rfl (fun h88 => ?_) (fun h88 => ?_)
      · (try simp only [decide_eq_true_eq, beq_iff_eq, beq_eq_false_iff_ne, decide_eq_decide, decide_eq_false_iff_not, Bool.not_eq_true', Bool.not_eq_false', Bool.not_eq_true, Bool.not_eq_false, Bool.not_not, ne_eq, Option.isNone_some, Option.isSome_some, Option.isNone_none, Option.isSome_none] at h88)
        refine yg1 rfl rfl ?_
        refine y (ev_move rfl) rfl ?_
        refine yg1 rfl rfl ?_
        refine y (ev_lss rfl rfl) rfl ?_
        refine y (ev_pick1 rfl rfl) rfl ?_
        refine ynil' (kthn (hK22 _ _ ?_))
        clear hK22
        refine ccond rfl (fun h92 => ?_) (fun h92 => ?_)
        · (try simp only [decide_eq_true_eq, beq_iff_eq, beq_eq_false_iff_ne, decide_eq_decide, decide_eq_false_iff_not, Bool.not_eq_true', Bool.not_eq_false', Bool.not_eq_true, Bool.not_eq_false, Bool.not_not, ne_eq, Option.isNone_some, Option.isSome_some, Option.isNone_none, Option.isSome_none] at h92)
          refine cskip' (kthn (hK21 _ _ ?_))
          clear hK21
          refine cseq ?_; intro K23 hK23
          refine cblock ?_
          refine cseq ?_; intro K24 hK24
          refine cseq ?_; intro K25 hK25
          refine creg ?_
          obtain ⟨m, hm⟩ : ∃ m, l[z]? = some m := ⟨_, List.getElem?_eq_getElem (by omega)⟩
          refine y (ev_move rfl) rfl ?_
          refine y (ev_move rfl) rfl ?_
          refine y (ev_ixV hv rfl rfl Try.underlying41 Try.sizeOf35 (by omega) (by omega)) rfl ?_
          refine y (ev_fieldAddr 11 rfl Try.underlying35 rfl Try.sizeOf9) rfl ?_
          refine y (ev_loadV (z * 13 + 11) hv (by repeat first | exact .refl | exact .nil | exact .z | apply Pk.s | refine Ge.e ?_ | apply Ge.pick | apply Ge.drop) rfl Try.isAgg9 (by simp; omega) (msgsV_at (r := 11) hm (by decide))) rfl ?_
          first
            | refine y (ev_lenStr rfl Try.underlying9) rfl ?_
            | refine y (ev_lenS rfl Try.underlying9) rfl ?_
          refine y (ev_gtr rfl rfl) rfl ?_
          refine y (ev_move rfl) rfl ?_
          refine ysplit 43 rfl (fun h101 => ?_) (fun h101 => ?_)
          · (try simp only [decide_eq_true_eq, beq_iff_eq, beq_eq_false_iff_ne, decide_eq_decide, decide_eq_false_iff_not, Bool.not_eq_true', Bool.not_eq_false', Bool.not_eq_true, Bool.not_eq_false, Bool.not_not, ne_eq, Option.isNone_some, Option.isSome_some, Option.isNone_none, Option.isSome_none] at h101)
            refine yg0 rfl rfl rfl rfl ?_
            refine yg0 rfl rfl rfl rfl ?_
            refine yg0 rfl rfl rfl rfl ?_
            refine yg0 rfl rfl rfl rfl ?_
            refine yg0 rfl rfl rfl rfl ?_
            refine yg0 rfl rfl rfl rfl ?_
            refine yg0 rfl rfl rfl rfl ?_
            refine y (ev_pick1 rfl rfl) rfl ?_
            refine ynil' (kthn (hK25 _ _ ?_))
            clear hK25
            refine ccond1 rfl ?_
            refine cseq ?_; intro K26 hK26
            refine creg ?_
            refine y (ev_assign rfl) rfl ?_
            refine ynil' (kthn (hK26 _ _ ?_))
            clear hK26
            refine cret (kthr (kbr (kthr (kthr (kbr (kthr ?_))))))
            first
              | (exfalso; omega; done)
              | (refine kretv Try.results7 rfl (L1 := R) (by repeat first | exact .refl | exact .nil | exact .z | apply Pk.s | refine Ge.e ?_ | apply Ge.pick | apply Ge.drop) ?_
                 exact ⟨_, ⟨by first | rfl | (exfalso; simp_all; done), rfl⟩, by first | rfl | (exfalso; simp_all; done)⟩)
          · (try simp only [decide_eq_true_eq, beq_iff_eq, beq_eq_false_iff_ne, decide_eq_decide, decide_eq_false_iff_not, Bool.not_eq_true', Bool.not_eq_false', Bool.not_eq_true, Bool.not_eq_false, Bool.not_not, ne_eq, Option.isNone_some, Option.isSome_some, Option.isNone_none, Option.isSome_none] at h101)
            refine yg1 rfl rfl ?_
            refine y (ev_move rfl) rfl ?_
            refine yg1 rfl rfl ?_
            refine y (ev_move rfl) rfl ?_
            refine yg1 rfl rfl ?_
            refine y (ev_ixV hv rfl rfl Try.underlying41 Try.sizeOf35 (by omega) (by omega)) rfl ?_
            refine yg1 rfl rfl ?_
            refine y (ev_fieldAddr 12 rfl Try.underlying35 rfl Try.sizeOf9) rfl ?_
            refine yg1 rfl rfl ?_
            refine y (ev_loadV (z * 13 + 12) hv (by repeat first | exact .refl | exact .nil | exact .z | apply Pk.s | refine Ge.e ?_ | apply Ge.pick | apply Ge.drop) rfl Try.isAgg9 (by simp; omega) (msgsV_at (r := 12) hm (by decide))) rfl ?_
            refine yg1 rfl rfl ?_
            first
              | refine y (ev_lenStr rfl Try.underlying9) rfl ?_
              | refine y (ev_lenS rfl Try.underlying9) rfl ?_
            refine yg1 rfl rfl ?_
            refine y (ev_gtr rfl rfl) rfl ?_
            refine y (ev_pick0 rfl rfl) rfl ?_
            refine ynil' (kthn (hK25 _ _ ?_))
            clear hK25
            refine ccond rfl (fun h112 => ?_) (fun h112 => ?_)
            · (try simp only [decide_eq_true_eq, beq_iff_eq, beq_eq_false_iff_ne, decide_eq_decide, decide_eq_false_iff_not, Bool.not_eq_true', Bool.not_eq_false', Bool.not_eq_true, Bool.not_eq_false, Bool.not_not, ne_eq, Option.isNone_some, Option.isSome_some, Option.isNone_none, Option.isSome_none] at h112)
              refine cseq ?_; intro K27 hK27
              refine creg ?_
              refine y (ev_assign rfl) rfl ?_
              refine ynil' (kthn (hK27 _ _ ?_))
              clear hK27
              refine cret (kthr (kbr (kthr (kthr (kbr (kthr ?_))))))
              first
                | (exfalso; omega; done)
                | (refine kretv Try.results7 rfl (L1 := R) (by repeat first | exact .refl | exact .nil | exact .z | apply Pk.s | refine Ge.e ?_ | apply Ge.pick | apply Ge.drop) ?_
                   exact ⟨_, ⟨by first | rfl | (exfalso; simp_all; done), rfl⟩, by first | rfl | (exfalso; simp_all; done)⟩)
            · (try simp only [decide_eq_true_eq, beq_iff_eq, beq_eq_false_iff_ne, decide_eq_decide, decide_eq_false_iff_not, Bool.not_eq_true', Bool.not_eq_false', Bool.not_eq_true, Bool.not_eq_false, Bool.not_not, ne_eq, Option.isNone_some, Option.isSome_some, Option.isNone_none, Option.isSome_none] at h112)
              refine cskip' (kthn (hK24 _ _ ?_))
              clear hK24
              refine creg ?_
              refine y (ev_move rfl) rfl ?_
              refine y (ev_move rfl) rfl ?_
              refine y (ev_move rfl) rfl ?_
              refine y (ev_ixV hv rfl rfl Try.underlying41 Try.sizeOf35 (by omega) (by omega)) rfl ?_
              refine y (ev_loadNV (us := m.cells) (z * 13) hv (by repeat first | exact .refl | exact .nil | exact .z | apply Pk.s | refine Ge.e ?_ | apply Ge.pick | apply Ge.drop) rfl Try.isAgg35 Try.sizeOf35 (by simp) (msgsV_get hm) rfl) rfl ?_
              refine ycall (gTake (k := z) ?gd119 ?gk119) rfl Try.call22 (by repeat first | exact .nil | exact .z | apply Pk.s | apply Tk.cons) rfl ?_
              case gd119 => exact hG
              case gk119 => omega
              rintro v L' ⟨D57, rfl, hG57, hA57, rfl⟩
              refine ynil' (kbn (kthn (hK23 _ _ ?_)))
              clear hK23
              refine creg ?_
              refine y (ev_move rfl) rfl ?_
              refine y (ev_add rfl rfl) rfl ?_
              rw [show IntKind.i64.wrap ((z:Int) + 1) = ((z+1 : Nat) : Int) by rw [wr (by omega) (by omega)]; rfl]
              refine y (ev_assign rfl) rfl ?_
              refine ynil' (kthn ?_)
              exact hL1 ((z + 1, D57)) (⟨hG57, by dsimp only; omega, by dsimp only; omega⟩) (by dsimp only; omega) _ _ (by repeat first | exact sub_nil | refine sub_cons rfl ?_ | refine sub_cons' rfl (by simp) ?_) (by repeat first | exact .refl | exact .nil | exact .z | apply Pk.s | refine Ge.e ?_ | apply Ge.pick | apply Ge.drop)
        · (try simp only [decide_eq_true_eq, beq_iff_eq, beq_eq_false_iff_ne, decide_eq_decide, decide_eq_false_iff_not, Bool.not_eq_true', Bool.not_eq_false', Bool.not_eq_true, Bool.not_eq_false, Bool.not_not, ne_eq, Option.isNone_some, Option.isSome_some, Option.isNone_none, Option.isSome_none] at h92)
          refine cexit (kthx (kthx (kbx (kthn ?_))))
          exact ksub (by repeat first | exact sub_nil | refine sub_cons rfl ?_ | refine sub_cons' rfl (by simp) ?_) (by repeat first | exact .refl | exact .nil | exact .z | apply Pk.s | refine Ge.e ?_ | apply Ge.pick | apply Ge.drop) (hJ1 ⟨z, D⟩ ⟨hI1o, by first | trivial | omega⟩)
      · (try simp only [decide_eq_true_eq, beq_iff_eq, beq_eq_false_iff_ne, decide_eq_decide, decide_eq_false_iff_not, Bool.not_eq_true', Bool.not_eq_false', Bool.not_eq_true, Bool.not_eq_false, Bool.not_not, ne_eq, Option.isNone_some, Option.isSome_some, Option.isNone_none, Option.isSome_none] at h88)
        refine yg0 rfl rfl rfl rfl ?_
        refine yg0 rfl rfl rfl rfl ?_
        refine y (ev_pick0 rfl rfl) rfl ?_
        refine ynil' (kthn (hK22 _ _ ?_))
        clear hK22
        refine ccond0 rfl ?_
        refine cexit (kthx (kthx (kbx (kthn ?_))))
        exact ksub (by repeat first | exact sub_nil | refine sub_cons rfl ?_ | refine sub_cons' rfl (by simp) ?_) (by repeat first | exact .refl | exact .nil | exact .z | apply Pk.s | refine Ge.e ?_ | apply Ge.pick | apply Ge.drop) (hJ1 ⟨z, D⟩ ⟨hI1o, by first | trivial | omega⟩)
end W
end Go.Proofs
