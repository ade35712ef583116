/- A part of the proof: contracts and plain lemmas, each without conditions beyond those that it names. -/
import Derived.Test.YtebijajimmjknaaB9
set_option linter.unusedVariables false
set_option linter.unusedSimpArgs false
set_option linter.constructorNameAsVariable false
namespace Go.Proofs
open Go Go.Sl
namespace W
set_option linter.unusedVariables false
theorem lawApart [Env] {R : List Seg} {bv : Int} {lv : Value} {l : List MsgM} (hb : 0 ≤ bv ∧ bv ≤ 255) (hv : RdV R lv l.length (msgsV l)) :
    Con Try.prog 5 [.int .u8 bv, lv] [] R (Is (.bool true) []) := by
  have hvl := hv.lenVal
  refine con_enter Try.func5 Try.ntmps5 rfl rfl ?_
  refine cseq ?_; intro K1 hK1
  refine creg ?_
  refine y (ev_assign rfl) rfl ?_
  refine ynil' (kthn (hK1 _ _ ?_))
  clear hK1
  refine cseq ?_; intro K2 hK2
  refine cseq ?_; intro K3 hK3
  refine creg ?_
  refine ycall (bAwake) rfl Try.call20 (by repeat first | exact .nil | exact .z | apply Pk.s | apply Tk.cons) rfl ?_
  rintro v L' ⟨rfl, rfl⟩
  skip
  · skip
    refine y (ev_not rfl) rfl ?_
    refine ynil' (kthn (hK3 _ _ ?_))
    clear hK3
    refine ccond0 rfl ?_
    refine cskip' (kthn (hK2 _ _ ?_))
    clear hK2
    refine cseq ?_; intro K4 hK4
    refine creg ?_
    refine y (ev_move rfl) rfl ?_
    refine ycall (bNewG ?bl5) rfl Try.call21 (by repeat first | exact .nil | exact .z | apply Pk.s | apply Tk.cons) rfl ?_
    case bl5 => exact hb
    rintro v L' ⟨X26, hX26, rfl, rfl⟩
    obtain ⟨n1, n32⟩ := nBl_le bv
    generalize hn0 : nBl bv = n at *
    generalize Dev.new (2 + 2 * n) = D0 at *
    refine y (ev_move rfl) rfl ?_
    refine y (ev_extract rfl rfl) rfl ?_
    refine y (ev_extract rfl rfl) rfl ?_
    refine y (ev_extract rfl rfl) rfl ?_
    refine y (ev_assign rfl) rfl ?_
    refine y (ev_assign rfl) rfl ?_
    refine y (ev_assign rfl) rfl ?_
    refine ynil' (kthn (hK4 _ _ ?_))
    clear hK4
    refine cseq ?_; intro K5 hK5
    refine cseq ?_; intro K6 hK6
    refine creg ?_
    refine y (ev_move rfl) rfl ?_
    skip
    · skip
      refine y (ev_eqlPnil rfl rfl Try.underlying42) rfl ?_
      refine ynil' (kthn (hK6 _ _ ?_))
      clear hK6
      refine ccond0 rfl ?_
      refine cskip' (kthn (hK5 _ _ ?_))
      clear hK5
      refine cseq ?_; intro K7 hK7
      refine cseq ?_; intro K8 hK8
      refine creg ?_
      refine y (ev_assign rfl) rfl ?_
      refine ynil' (kthn (hK8 _ _ ?_))
      clear hK8
      refine cblock ?_
      refine cloop (A := Nat × Dev) (fun x => [(8, i64 x.1), (6, ptr X26.s), (7, i64 n), (1, lv)]) (fun x => [stG X26 x.2 n] ++ R) (fun x => SGood X26.ps x.2 n x.1 ∧ x.1 ≤ l.length ∧ x.1 ≤ 60) (fun x => 60 - x.1) ((0, D0)) ?_ (by repeat first | exact sub_nil | refine sub_cons rfl ?_ | refine sub_cons' rfl (by simp) ?_) (by repeat first | exact .refl | exact .nil | exact .z | apply Pk.s | refine Ge.e ?_ | apply Ge.pick | apply Ge.drop) ?_
      · exact ⟨hX26, Nat.zero_le _, Nat.zero_le _⟩
      rintro ⟨z, D⟩ hI1 KL1 hL1
      obtain ⟨hG, hz1, hz2⟩ := hI1; dsimp only at hG hz1 hz2 ⊢; obtain ⟨A, hA⟩ : ∃ A, absS D n = A := ⟨_, rfl⟩; have htl : A.tab.length = 4 := by rw [← hA]; exact hG.wf.tab
      refine cseq ?_; intro K9 hK9
      refine cseq ?_; intro K10 hK10
      refine creg ?_
      refine y (ev_move rfl) rfl ?_
      refine y (ev_move rfl) rfl ?_
      first
        | refine y (ev_len rfl Try.underlying41) rfl ?_
        | refine y (ev_lenSv rfl Try.underlying41 (by assumption)) rfl ?_
        | refine y (ev_lenV rfl Try.underlying41 (RdV.lenVal (by assumption))) rfl ?_
        | refine y (ev_lenV rfl Try.underlying41 (RdB.lenVal (by assumption))) rfl ?_
      refine y (ev_lss rfl rfl) rfl ?_
      refine y (ev_move rfl) rfl ?_
      refine ysplit 36 rfl (fun h21 => ?_) (fun h21 => ?_)
      · (try simp only [decide_eq_true_eq, beq_iff_eq, beq_eq_false_iff_ne, decide_eq_decide, decide_eq_false_iff_not, Bool.not_eq_true', Bool.not_eq_false', Bool.not_eq_true, Bool.not_eq_false, Bool.not_not, ne_eq, Option.isNone_some, Option.isSome_some, Option.isNone_none, Option.isSome_none] at h21)
        refine yg1 rfl rfl ?_
        refine y (ev_move rfl) rfl ?_
        refine yg1 rfl rfl ?_
        refine y (ev_lss rfl rfl) rfl ?_
        refine y (ev_pick1 rfl rfl) rfl ?_
        refine ynil' (kthn (hK10 _ _ ?_))
        clear hK10
        refine ccond rfl (fun h25 => ?_) (fun h25 => ?_)
        · (try simp only [decide_eq_true_eq, beq_iff_eq, beq_eq_false_iff_ne, decide_eq_decide, decide_eq_false_iff_not, Bool.not_eq_true', Bool.not_eq_false', Bool.not_eq_true, Bool.not_eq_false, Bool.not_not, ne_eq, Option.isNone_some, Option.isSome_some, Option.isNone_none, Option.isSome_none] at h25)
          refine cskip' (kthn (hK9 _ _ ?_))
          clear hK9
          refine cseq ?_; intro K11 hK11
          refine cblock ?_
          refine cseq ?_; intro K12 hK12
          refine creg ?_
          obtain ⟨m, hm⟩ : ∃ m, l[z]? = some m := ⟨_, List.getElem?_eq_getElem (by omega)⟩
          have hap := apartA A m
          refine y (ev_move rfl) rfl ?_
          refine y (ev_move rfl) rfl ?_
          refine y (ev_ixV hv rfl rfl Try.underlying41 Try.sizeOf35 (by omega) (by omega)) rfl ?_
          refine y (ev_loadNV (us := m.cells) (z * 13) hv (by repeat first | exact .refl | exact .nil | exact .z | apply Pk.s | refine Ge.e ?_ | apply Ge.pick | apply Ge.drop) rfl Try.isAgg35 Try.sizeOf35 (by simp) (msgsV_get hm) rfl) rfl ?_
          refine ya (ac_alloc Try.zeroValue35 rfl) rfl ?_
          rintro v L' ⟨b9, rfl, rfl⟩
          refine ya0 (ac_storeAll rfl rfl (msg_one m) Try.sizeOf35 (by repeat first | exact .z | apply Rp.s) (by rfl) (by rfl)) ?_
          rintro v L' ⟨rfl, rfl⟩
          refine ynil' (kthn (hK12 _ _ ?_))
          clear hK12
          refine cseq ?_; intro K13 hK13
          refine cseq ?_; intro K14 hK14
          refine creg ?_
          refine y (ev_fieldAddr 11 rfl Try.underlying35 rfl Try.sizeOf9) rfl ?_
          refine y (ev_load rfl Try.isAgg9 (by repeat first | exact .z | apply In.s) rfl) rfl ?_
          first
            | refine y (ev_lenStr rfl Try.underlying9) rfl ?_
            | refine y (ev_lenS rfl Try.underlying9) rfl ?_
          refine y (ev_gtr rfl rfl) rfl ?_
          refine y (ev_move rfl) rfl ?_
          refine ysplit 50 rfl (fun h37 => ?_) (fun h37 => ?_)
          · (try simp only [decide_eq_true_eq, beq_iff_eq, beq_eq_false_iff_ne, decide_eq_decide, decide_eq_false_iff_not, Bool.not_eq_true', Bool.not_eq_false', Bool.not_eq_true, Bool.not_eq_false, Bool.not_not, ne_eq, Option.isNone_some, Option.isSome_some, Option.isNone_none, Option.isSome_none] at h37)
            refine yg0 rfl rfl rfl rfl ?_
            refine yg0 rfl rfl rfl rfl ?_
            refine yg0 rfl rfl rfl rfl ?_
            refine yg0 rfl rfl rfl rfl ?_
            refine y (ev_pick1 rfl rfl) rfl ?_
            refine ynil' (kthn (hK14 _ _ ?_))
            clear hK14
            refine ccond1 rfl ?_
            refine cseq ?_; intro K15 hK15
            refine creg ?_
            refine y (ev_assign rfl) rfl ?_
            refine ynil' (kthn (hK15 _ _ ?_))
            clear hK15
            refine cret (kthr (kbr (kthr (kthr (kbr (kthr ?_))))))
            first
              | (exfalso; omega; done)
              | (refine kretv Try.results5 rfl (L1 := R) (by repeat first | exact .refl | exact .nil | exact .z | apply Pk.s | refine Ge.e ?_ | apply Ge.pick | apply Ge.drop) ?_
                 exact ⟨_, ⟨by first | rfl | (exfalso; simp_all; done), rfl⟩, by first | rfl | (exfalso; simp_all; done)⟩)
          · (try simp only [decide_eq_true_eq, beq_iff_eq, beq_eq_false_iff_ne, decide_eq_decide, decide_eq_false_iff_not, Bool.not_eq_true', Bool.not_eq_false', Bool.not_eq_true, Bool.not_eq_false, Bool.not_not, ne_eq, Option.isNone_some, Option.isSome_some, Option.isNone_none, Option.isSome_none] at h37)
            refine yg1 rfl rfl ?_
            refine y (ev_fieldAddr 12 rfl Try.underlying35 rfl Try.sizeOf9) rfl ?_
            refine yg1 rfl rfl ?_
            refine y (ev_load rfl Try.isAgg9 (by repeat first | exact .z | apply In.s) rfl) rfl ?_
            refine yg1 rfl rfl ?_
            first
              | refine y (ev_lenStr rfl Try.underlying9) rfl ?_
              | refine y (ev_lenS rfl Try.underlying9) rfl ?_
            refine yg1 rfl rfl ?_
            refine y (ev_gtr rfl rfl) rfl ?_
            refine y (ev_pick0 rfl rfl) rfl ?_
            refine ynil' (kthn (hK14 _ _ ?_))
            clear hK14
            refine ccond rfl (fun h45 => ?_) (fun h45 => ?_)
            · (try simp only [decide_eq_true_eq, beq_iff_eq, beq_eq_false_iff_ne, decide_eq_decide, decide_eq_false_iff_not, Bool.not_eq_true', Bool.not_eq_false', Bool.not_eq_true, Bool.not_eq_false, Bool.not_not, ne_eq, Option.isNone_some, Option.isSome_some, Option.isNone_none, Option.isSome_none] at h45)
              refine cseq ?_; intro K16 hK16
              refine creg ?_
              refine y (ev_assign rfl) rfl ?_
              refine ynil' (kthn (hK16 _ _ ?_))
              clear hK16
              refine cret (kthr (kbr (kthr (kthr (kbr (kthr ?_))))))
              first
                | (exfalso; omega; done)
                | (refine kretv Try.results5 rfl (L1 := R) (by repeat first | exact .refl | exact .nil | exact .z | apply Pk.s | refine Ge.e ?_ | apply Ge.pick | apply Ge.drop) ?_
                   exact ⟨_, ⟨by first | rfl | (exfalso; simp_all; done), rfl⟩, by first | rfl | (exfalso; simp_all; done)⟩)
            · (try simp only [decide_eq_true_eq, beq_iff_eq, beq_eq_false_iff_ne, decide_eq_decide, decide_eq_false_iff_not, Bool.not_eq_true', Bool.not_eq_false', Bool.not_eq_true, Bool.not_eq_false, Bool.not_not, ne_eq, Option.isNone_some, Option.isSome_some, Option.isNone_none, Option.isSome_none] at h45)
              refine cskip' (kthn (hK13 _ _ ?_))
              clear hK13
              refine cseq ?_; intro K17 hK17
              refine creg ?_
              refine ya (ac_bslice0 Try.underlying47 Try.sizeOf50) rfl ?_
              rintro v L' ⟨b56, rfl, rfl⟩
              refine y (ev_assign rfl) rfl ?_
              refine ynil' (kthn (hK17 _ _ ?_))
              clear hK17
              refine cseq ?_; intro K18 hK18
              refine creg ?_
              refine ya (ac_bslice0 Try.underlying48 Try.sizeOf9) rfl ?_
              rintro v L' ⟨b57, rfl, rfl⟩
              refine y (ev_assign rfl) rfl ?_
              refine ynil' (kthn (hK18 _ _ ?_))
              clear hK18
              refine cseq ?_; intro K19 hK19
              refine cseq ?_; intro K20 hK20
              refine creg ?_
              refine y (ev_assign rfl) rfl ?_
              refine ynil' (kthn (hK20 _ _ ?_))
              clear hK20
              have hJ2 : ∀ x : Nat × Sv × Sv, ((x.1 ≤ n ∧ svOk x.2.1 x.1 2 (versV A x.1) ∧ svOk x.2.2 x.1 1 (datsV A x.1)) ∧ (x.1 = n)) → Sk 206 K19 ([(12, i64 x.1), (10, svVal x.2.1 x.1), (11, svVal x.2.2 x.1), (9, ptr b9), (8, i64 z), (6, ptr X26.s), (7, i64 n), (1, lv)]) ([svSeg x.2.1 50 (versV A x.1), svSeg x.2.2 9 (datsV A x.1), sc b9 m.cells 35, stG X26 D n] ++ R) := by
                rintro ⟨i, sv, sd⟩ ⟨hI2, hX2⟩
                refine hK19 _ _ ?_
                obtain ⟨hi2, okv, okd⟩ := hI2; dsimp only at hi2 okv okd ⊢
                dsimp only at hX2; have hx := hX2.symm; subst hx
                refine cseq ?_; intro K21 hK21
                refine creg ?_
                refine y (ev_move rfl) rfl ?_
                refine ycall (gTable ?gw53) rfl Try.call24 (by repeat first | exact .nil | exact .z | apply Pk.s | apply Tk.cons) rfl ?_
                case gw53 => exact hG.wf
                rintro v L' ⟨rfl, rfl⟩
                rw [hA]
                refine ya (ac_alloc Try.zeroValue33 rfl) rfl ?_
                rintro v L' ⟨b15, rfl, rfl⟩
                refine ya0 (ac_storeN (vs' := intsV A.tab) rfl rfl (intsV_one _) Try.sizeOf33 (by repeat first | exact .z | apply Rp.s) (by simp [intsV, htl]) (by simp [intsV, htl]) (by simp [intsV, htl])) ?_
                rintro v L' ⟨rfl, rfl⟩
                refine ynil' (kthn (hK21 _ _ ?_))
                clear hK21
                refine cseq ?_; intro K22 hK22
                refine creg ?_
                refine y (ev_move rfl) rfl ?_
                refine y (ev_loadN (u := m.cells) rfl Try.isAgg35 Try.sizeOf35 (by repeat first | exact .z | apply In.s) rfl rfl) rfl ?_
                refine ycall (gTake (k := z) ?gd58 ?gk58) rfl Try.call22 (by repeat first | exact .nil | exact .z | apply Pk.s | apply Tk.cons) rfl ?_
                case gd58 => exact hG
                case gk58 => omega
                rintro v L' ⟨D82, rfl, hG82, hA82, rfl⟩
                rw [hA] at hA82 ⊢
                generalize (A.take m).2 = B at *
                generalize (A.take m).1 = a at *
                obtain ⟨o, is⟩ := a
                have htB : B.tab.length = 4 := by rw [← hA82]; exact hG82.wf.tab
                have hout := hap.ans
                have htt := hap.t
                have hbb := hap.b
                dsimp only at hout htt hbb ⊢
                refine y (ev_move rfl) rfl ?_
                refine y (ev_extract rfl rfl) rfl ?_
                refine y (ev_extract rfl rfl) rfl ?_
                refine ya (ac_alloc Try.zeroValue35 rfl) rfl ?_
                rintro v L' ⟨b16, rfl, rfl⟩
                refine ya0 (ac_storeAll rfl rfl (msg_one o) Try.sizeOf35 (by repeat first | exact .z | apply Rp.s) (by rfl) (by rfl)) ?_
                rintro v L' ⟨rfl, rfl⟩
                refine y (ev_assign rfl) rfl ?_
                refine ynil' (kthn (hK22 _ _ ?_))
                clear hK22
                refine cseq ?_; intro K23 hK23
                refine cseq ?_; intro K24 hK24
                refine creg ?_
                refine y (ev_assign rfl) rfl ?_
                refine ynil' (kthn (hK24 _ _ ?_))
                clear hK24
                have hJ3 : ∀ x : Nat, ((x ≤ n) ∧ (x = n)) → Sk 206 K23 ([(18, i64 x), (10, svVal sv n), (11, svVal sd n), (15, ptr b15), (16, ptr b16), (17, .bool is), (9, ptr b9), (8, i64 z), (6, ptr X26.s), (7, i64 n), (1, lv)]) ([svSeg sv 50 (versV A n), svSeg sd 9 (datsV A n), sc b15 (intsV A.tab) 33, sc b16 o.cells 35, sc b9 m.cells 35, stG X26 D82 n] ++ R) := by
                  rintro i ⟨hI3, hX3⟩
                  refine hK23 _ _ ?_
                  have hi3 := hI3
                  refine cseq ?_; intro K25 hK25
                  have hJr31 : ∀ x : Unit, (True) → Sk 206 K25 ([(8, i64 z), (6, ptr X26.s), (7, i64 n), (1, lv), (9, ptr b9), (16, ptr b16), (17, .bool is)]) ([sc b16 o.cells 35, sc b9 m.cells 35, stG X26 D82 n] ++ R) := by
                    rintro x hIr31
                    refine hK25 _ _ ?_
                    refine cseq ?_; intro K26 hK26
                    refine creg ?_
                    rcases (show is = false ∨ (is = true ∧ (o.epoch = m.epoch ∧ o.seq = m.seq ∧ o.n = m.n ∧ o.block = m.block ∧ o.client = -1 ∧ o.kind = m.kind + 1 ∧ (m.kind = 10 ∨ m.kind = 12))) by cases is; exact .inl rfl; exact .inr ⟨rfl, hout rfl⟩) with rfl | ⟨rfl, e1, e2, e3, e4, e5, e6, e7⟩
                    · skip
                      refine y (ev_move rfl) rfl ?_
                      refine y (ev_move rfl) rfl ?_
                      refine yg0 rfl rfl rfl rfl ?_
                      refine yg0 rfl rfl rfl rfl ?_
                      refine yg0 rfl rfl rfl rfl ?_
                      refine yg0 rfl rfl rfl rfl ?_
                      refine yg0 rfl rfl rfl rfl ?_
                      refine yg0 rfl rfl rfl rfl ?_
                      refine yg0u rfl rfl rfl ?_
                      refine yg0u rfl rfl rfl ?_
                      refine yg0u rfl rfl rfl ?_
                      refine yg0u rfl rfl rfl ?_
                      refine yg0u rfl rfl rfl ?_
                      refine yg0 rfl rfl rfl rfl ?_
                      refine yg0 rfl rfl rfl rfl ?_
                      refine yg0u rfl rfl rfl ?_
                      refine yg0u rfl rfl rfl ?_
                      refine yg0u rfl rfl rfl ?_
                      refine yg0u rfl rfl rfl ?_
                      refine yg0u rfl rfl rfl ?_
                      refine yg0 rfl rfl rfl rfl ?_
                      refine yg0 rfl rfl rfl rfl ?_
                      refine yg0u rfl rfl rfl ?_
                      refine yg0u rfl rfl rfl ?_
                      refine yg0u rfl rfl rfl ?_
                      refine yg0u rfl rfl rfl ?_
                      refine yg0u rfl rfl rfl ?_
                      refine yg0 rfl rfl rfl rfl ?_
                      refine yg0 rfl rfl rfl rfl ?_
                      refine yg0u rfl rfl rfl ?_
                      refine yg0u rfl rfl rfl ?_
                      refine yg0u rfl rfl rfl ?_
                      refine yg0 rfl rfl rfl rfl ?_
                      refine yg0 rfl rfl rfl rfl ?_
                      refine yg0u rfl rfl rfl ?_
                      refine yg0u rfl rfl rfl ?_
                      refine yg0u rfl rfl rfl ?_
                      refine yg0u rfl rfl rfl ?_
                      refine yg0u rfl rfl rfl ?_
                      refine yg0u rfl rfl rfl ?_
                      refine yg0 rfl rfl rfl rfl ?_
                      refine y (ev_pick0 rfl rfl) rfl ?_
                      refine ynil' (kthn (hK26 _ _ ?_))
                      clear hK26
                      refine ccond0 rfl ?_
                      refine cskip' (kbn (kthn (hK11 _ _ ?_)))
                      clear hK11
                      refine creg ?_
                      refine y (ev_move rfl) rfl ?_
                      refine y (ev_add rfl rfl) rfl ?_
                      rw [show IntKind.i64.wrap ((z:Int) + 1) = ((z+1 : Nat) : Int) by rw [wr (by omega) (by omega)]; rfl]
                      refine y (ev_assign rfl) rfl ?_
                      refine ynil' (kthn ?_)
                      exact hL1 ((z + 1, D82)) (⟨hG82, by dsimp only; omega, by dsimp only; omega⟩) (by dsimp only; omega) _ _ (by repeat first | exact sub_nil | refine sub_cons rfl ?_ | refine sub_cons' rfl (by simp) ?_) (by repeat first | exact .refl | exact .nil | exact .z | apply Pk.s | refine Ge.e ?_ | apply Ge.pick | apply Ge.drop)
                    · skip
                      refine y (ev_move rfl) rfl ?_
                      refine y (ev_move rfl) rfl ?_
                      refine yg1 rfl rfl ?_
                      refine y (ev_fieldAddr 1 rfl Try.underlying35 rfl Try.sizeOf2) rfl ?_
                      refine yg1 rfl rfl ?_
                      refine y (ev_load rfl Try.isAgg2 (by repeat first | exact .z | apply In.s) rfl) rfl ?_
                      refine yg1 rfl rfl ?_
                      refine y (ev_fieldAddr 1 rfl Try.underlying35 rfl Try.sizeOf2) rfl ?_
                      refine yg1 rfl rfl ?_
                      refine y (ev_load rfl Try.isAgg2 (by repeat first | exact .z | apply In.s) rfl) rfl ?_
                      refine yg1 rfl rfl ?_
                      refine y (ev_neq rfl rfl) rfl ?_
                      rw [show (!decide (o.epoch = m.epoch)) = false by simp [e1]]
                      refine yg1 rfl rfl ?_
                      refine y (ev_move rfl) rfl ?_
                      refine yg1 rfl rfl ?_
                      refine y (ev_fieldAddr 2 rfl Try.underlying35 rfl Try.sizeOf2) rfl ?_
                      refine yg1 rfl rfl ?_
                      refine y (ev_load rfl Try.isAgg2 (by repeat first | exact .z | apply In.s) rfl) rfl ?_
                      refine yg1 rfl rfl ?_
                      refine y (ev_fieldAddr 2 rfl Try.underlying35 rfl Try.sizeOf2) rfl ?_
                      refine yg1 rfl rfl ?_
                      refine y (ev_load rfl Try.isAgg2 (by repeat first | exact .z | apply In.s) rfl) rfl ?_
                      refine yg1 rfl rfl ?_
                      refine y (ev_neq rfl rfl) rfl ?_
                      rw [show (!decide (o.seq = m.seq)) = false by simp [e2]]
                      refine yg1 rfl rfl ?_
                      refine y (ev_pick0 rfl rfl) rfl ?_
                      refine yg1 rfl rfl ?_
                      refine y (ev_move rfl) rfl ?_
                      refine yg1 rfl rfl ?_
                      refine y (ev_fieldAddr 3 rfl Try.underlying35 rfl Try.sizeOf2) rfl ?_
                      refine yg1 rfl rfl ?_
                      refine y (ev_load rfl Try.isAgg2 (by repeat first | exact .z | apply In.s) rfl) rfl ?_
                      refine yg1 rfl rfl ?_
                      refine y (ev_fieldAddr 3 rfl Try.underlying35 rfl Try.sizeOf2) rfl ?_
                      refine yg1 rfl rfl ?_
                      refine y (ev_load rfl Try.isAgg2 (by repeat first | exact .z | apply In.s) rfl) rfl ?_
                      refine yg1 rfl rfl ?_
                      refine y (ev_neq rfl rfl) rfl ?_
                      rw [show (!decide (o.n = m.n)) = false by simp [e3]]
                      refine yg1 rfl rfl ?_
                      refine y (ev_pick0 rfl rfl) rfl ?_
                      refine yg1 rfl rfl ?_
                      refine y (ev_move rfl) rfl ?_
                      refine yg1 rfl rfl ?_
                      refine y (ev_fieldAddr 4 rfl Try.underlying35 rfl Try.sizeOf3) rfl ?_
                      refine yg1 rfl rfl ?_
                      refine y (ev_load rfl Try.isAgg3 (by repeat first | exact .z | apply In.s) rfl) rfl ?_
                      refine yg1 rfl rfl ?_
                      refine y (ev_fieldAddr 4 rfl Try.underlying35 rfl Try.sizeOf3) rfl ?_
                      refine yg1 rfl rfl ?_
                      refine y (ev_load rfl Try.isAgg3 (by repeat first | exact .z | apply In.s) rfl) rfl ?_
                      refine yg1 rfl rfl ?_
                      refine y (ev_neq rfl rfl) rfl ?_
                      rw [show (!decide (o.block = m.block)) = false by simp [e4]]
                      refine yg1 rfl rfl ?_
                      refine y (ev_pick0 rfl rfl) rfl ?_
                      refine yg1 rfl rfl ?_
                      refine y (ev_move rfl) rfl ?_
                      refine yg1 rfl rfl ?_
                      refine y (ev_fieldAddr 5 rfl Try.underlying35 rfl Try.sizeOf3) rfl ?_
                      refine yg1 rfl rfl ?_
                      refine y (ev_load rfl Try.isAgg3 (by repeat first | exact .z | apply In.s) rfl) rfl ?_
                      refine yg1 rfl rfl ?_
                      refine y (ev_neq rfl rfl) rfl ?_
                      rw [show (!decide (o.client = -1)) = false by simp [e5]]
                      refine yg1 rfl rfl ?_
                      refine y (ev_pick0 rfl rfl) rfl ?_
                      refine yg1 rfl rfl ?_
                      refine y (ev_move rfl) rfl ?_
                      refine yg1 rfl rfl ?_
                      refine y (ev_fieldAddr 0 rfl Try.underlying35 rfl Try.sizeOf3) rfl ?_
                      refine yg1 rfl rfl ?_
                      refine y (ev_load rfl Try.isAgg3 (by repeat first | exact .z | apply In.s) rfl) rfl ?_
                      refine yg1 rfl rfl ?_
                      refine y (ev_fieldAddr 0 rfl Try.underlying35 rfl Try.sizeOf3) rfl ?_
                      refine yg1 rfl rfl ?_
                      refine y (ev_load rfl Try.isAgg3 (by repeat first | exact .z | apply In.s) rfl) rfl ?_
                      refine yg1 rfl rfl ?_
                      refine y (ev_add rfl rfl) rfl ?_
                      rw [wr (by omega) (by omega)]
                      refine yg1 rfl rfl ?_
                      refine y (ev_neq rfl rfl) rfl ?_
                      rw [show (!decide (o.kind = m.kind + 1)) = false by simp [e6]]
                      refine yg1 rfl rfl ?_
                      refine y (ev_pick0 rfl rfl) rfl ?_
                      refine y (ev_pick1 rfl rfl) rfl ?_
                      refine ynil' (kthn (hK26 _ _ ?_))
                      clear hK26
                      refine ccond0 rfl ?_
                      refine cskip' (kbn (kthn (hK11 _ _ ?_)))
                      clear hK11
                      refine creg ?_
                      refine y (ev_move rfl) rfl ?_
                      refine y (ev_add rfl rfl) rfl ?_
                      rw [show IntKind.i64.wrap ((z:Int) + 1) = ((z+1 : Nat) : Int) by rw [wr (by omega) (by omega)]; rfl]
                      refine y (ev_assign rfl) rfl ?_
                      refine ynil' (kthn ?_)
                      exact hL1 ((z + 1, D82)) (⟨hG82, by dsimp only; omega, by dsimp only; omega⟩) (by dsimp only; omega) _ _ (by repeat first | exact sub_nil | refine sub_cons rfl ?_ | refine sub_cons' rfl (by simp) ?_) (by repeat first | exact .refl | exact .nil | exact .z | apply Pk.s | refine Ge.e ?_ | apply Ge.pick | apply Ge.drop)
                  clear hK25
                  refine cseq ?_; intro K27 hK27
                  refine cdraw 17 [(0, true), (2, true), (1, false), (3, true), (4, true), (5, true), (6, true), (7, true), (8, true), (9, true), (10, true), (11, true), (12, true), (13, true), (14, true), (15, true), (16, true)] (_) Try.mixed (by kernel_rfl) .refl ?_
                  rcases htt with htt | ⟨rfl, h2, h3⟩
                  · skip
                    refine hr rfl (ev_move rfl) rfl ?_
                    refine hr rfl (ev_loadN (u := intsV A.tab) rfl Try.isAgg33 Try.sizeOf33 (by repeat first | exact .z | apply In.s) (by rw [List.drop_zero, List.take_of_length_le (by simp [intsV, htl])]) (by simp [intsV, htl])) rfl ?_
                    refine hcall rfl (gTable ?gw119) rfl Try.call24 (by repeat first | exact .nil | exact .z | apply Pk.s | apply Tk.cons) rfl ?_
                    case gw119 => exact hG82.wf
                    rintro v L' ⟨rfl, rfl⟩; refine ⟨(by repeat first | exact .refl | exact .nil | exact .z | apply Pk.s | refine Ge.e ?_ | apply Ge.pick | apply Ge.drop), ?_⟩
                    rw [hA82]
                    refine hr rfl (ev_neqI (k := 4) rfl rfl (by kernel_rfl) (by kernel_rfl) (by kernel_rfl) htB htl) rfl ?_
                    try rw [htt, show (!decide (A.tab = A.tab)) = false by simp]
                    refine hr rfl (ev_move rfl) rfl ?_
                    refine hr0 rfl rfl rfl rfl rfl ?_
                    refine hr0 rfl rfl rfl rfl rfl ?_
                    refine hr0 rfl rfl rfl rfl rfl ?_
                    refine hr0u rfl rfl rfl rfl ?_
                    refine hr0u rfl rfl rfl rfl ?_
                    refine hr0u rfl rfl rfl rfl ?_
                    refine hr0 rfl rfl rfl rfl rfl ?_
                    refine hr0 rfl rfl rfl rfl rfl ?_
                    refine hr0u rfl rfl rfl rfl ?_
                    refine hr0u rfl rfl rfl rfl ?_
                    refine hr0u rfl rfl rfl rfl ?_
                    refine hr0 rfl rfl rfl rfl rfl ?_
                    refine hnil ?_
                    refine y (ev_pick0 rfl rfl) rfl ?_
                    refine hnoP' (kthn (hK27 _ _ ?_))
                    clear hK27
                    refine ccond0 rfl ?_
                    refine cskip' (kthn ?_)
                    exact ksub (by repeat first | exact sub_nil | refine sub_cons rfl ?_ | refine sub_cons' rfl (by simp) ?_) (by repeat first | exact .refl | exact .nil | exact .z | apply Pk.s | refine Ge.e ?_ | apply Ge.pick | apply Ge.drop) (hJr31 () trivial)
                  · skip
                    refine hr rfl (ev_move rfl) rfl ?_
                    refine hr rfl (ev_loadN (u := intsV A.tab) rfl Try.isAgg33 Try.sizeOf33 (by repeat first | exact .z | apply In.s) (by rw [List.drop_zero, List.take_of_length_le (by simp [intsV, htl])]) (by simp [intsV, htl])) rfl ?_
                    refine hcall rfl (gTable ?gw125) rfl Try.call24 (by repeat first | exact .nil | exact .z | apply Pk.s | apply Tk.cons) rfl ?_
                    case gw125 => exact hG82.wf
                    rintro v L' ⟨rfl, rfl⟩; refine ⟨(by repeat first | exact .refl | exact .nil | exact .z | apply Pk.s | refine Ge.e ?_ | apply Ge.pick | apply Ge.drop), ?_⟩
                    rw [hA82]
                    refine hr rfl (ev_neqI (k := 4) rfl rfl (by kernel_rfl) (by kernel_rfl) (by kernel_rfl) htB htl) rfl ?_
                    try rw [htt, show (!decide (A.tab = A.tab)) = false by simp]
                    refine hr rfl (ev_move rfl) rfl ?_
                    refine hsplit 150 rfl (fun h128 => ?_) (fun h128 => ?_)
                    · (try simp only [decide_eq_true_eq, beq_iff_eq, beq_eq_false_iff_ne, decide_eq_decide, decide_eq_false_iff_not, Bool.not_eq_true', Bool.not_eq_false', Bool.not_eq_true, Bool.not_eq_false, Bool.not_not, ne_eq, Option.isNone_some, Option.isSome_some, Option.isNone_none, Option.isSome_none] at h128)
                      refine hr1 rfl rfl rfl (ev_move rfl) rfl ?_
                      refine hr1 rfl rfl rfl (ev_not rfl) rfl ?_
                      refine hr1 rfl rfl rfl (ev_move rfl) rfl ?_
                      refine hr1 rfl rfl rfl (ev_fieldAddr 6 rfl Try.underlying35 rfl Try.sizeOf32) rfl ?_
                      refine hr1 rfl rfl rfl (ev_load rfl Try.isAgg32 (by repeat first | exact .z | apply In.s) rfl) rfl ?_
                      refine hr1 rfl rfl rfl (ev_neq rfl rfl) rfl ?_
                      rw [show (!decide (o.e = 0)) = false by simp [h2]]
                      refine hr1 rfl rfl rfl (ev_pick0 rfl rfl) rfl ?_
                      refine hr1 rfl rfl rfl (ev_move rfl) rfl ?_
                      refine hr1 rfl rfl rfl (ev_fieldAddr 0 rfl Try.underlying35 rfl Try.sizeOf3) rfl ?_
                      refine hr1 rfl rfl rfl (ev_load rfl Try.isAgg3 (by repeat first | exact .z | apply In.s) rfl) rfl ?_
                      refine hr1 rfl rfl rfl (ev_neq rfl rfl) rfl ?_
                      rw [show (!decide (m.kind = 10)) = false by simp [h3]]
                      refine hr1 rfl rfl rfl (ev_pick0 rfl rfl) rfl ?_
                      refine hnil ?_
                      refine y (ev_pick1 rfl rfl) rfl ?_
                      refine hnoP' (kthn (hK27 _ _ ?_))
                      clear hK27
                      refine ccond0 rfl ?_
                      refine cskip' (kthn ?_)
                      exact ksub (by repeat first | exact sub_nil | refine sub_cons rfl ?_ | refine sub_cons' rfl (by simp) ?_) (by repeat first | exact .refl | exact .nil | exact .z | apply Pk.s | refine Ge.e ?_ | apply Ge.pick | apply Ge.drop) (hJr31 () trivial)
                    · (try simp only [decide_eq_true_eq, beq_iff_eq, beq_eq_false_iff_ne, decide_eq_decide, decide_eq_false_iff_not, Bool.not_eq_true', Bool.not_eq_false', Bool.not_eq_true, Bool.not_eq_false, Bool.not_not, ne_eq, Option.isNone_some, Option.isSome_some, Option.isNone_none, Option.isSome_none] at h128)
                      refine hr0 rfl rfl rfl rfl rfl ?_
                      refine hr0 rfl rfl rfl rfl rfl ?_
                      refine hr0 rfl rfl rfl rfl rfl ?_
                      refine hr0u rfl rfl rfl rfl ?_
                      refine hr0u rfl rfl rfl rfl ?_
                      refine hr0u rfl rfl rfl rfl ?_
                      refine hr0 rfl rfl rfl rfl rfl ?_
                      refine hr0 rfl rfl rfl rfl rfl ?_
                      refine hr0u rfl rfl rfl rfl ?_
                      refine hr0u rfl rfl rfl rfl ?_
                      refine hr0u rfl rfl rfl rfl ?_
                      refine hr0 rfl rfl rfl rfl rfl ?_
                      refine hnil ?_
                      refine y (ev_pick0 rfl rfl) rfl ?_
                      refine hnoP' (kthn (hK27 _ _ ?_))
                      clear hK27
                      refine ccond0 rfl ?_
                      refine cskip' (kthn ?_)
                      exact ksub (by repeat first | exact sub_nil | refine sub_cons rfl ?_ | refine sub_cons' rfl (by simp) ?_) (by repeat first | exact .refl | exact .nil | exact .z | apply Pk.s | refine Ge.e ?_ | apply Ge.pick | apply Ge.drop) (hJr31 () trivial)
                clear hK23
                refine cblock ?_
                refine cloop (A := Nat) (fun x => [(18, i64 x), (10, svVal sv n), (11, svVal sd n), (15, ptr b15), (16, ptr b16), (17, .bool is), (9, ptr b9), (8, i64 z), (6, ptr X26.s), (7, i64 n), (1, lv)]) (fun x => [svSeg sv 50 (versV A n), svSeg sd 9 (datsV A n), sc b15 (intsV A.tab) 33, sc b16 o.cells 35, sc b9 m.cells 35, stG X26 D82 n] ++ R) (fun x => x ≤ n) (fun x => n - x) (0) ?_ (by repeat first | exact sub_nil | refine sub_cons rfl ?_ | refine sub_cons' rfl (by simp) ?_) (by repeat first | exact .refl | exact .nil | exact .z | apply Pk.s | refine Ge.e ?_ | apply Ge.pick | apply Ge.drop) ?_
                · exact Nat.zero_le _
                rintro i hI3 KL3 hL3
                have hI3o := hI3
                have hi3 := hI3
                refine cseq ?_; intro K28 hK28
                refine cseq ?_; intro K29 hK29
                refine creg ?_
                refine y (ev_move rfl) rfl ?_
                refine y (ev_move rfl) rfl ?_
                refine y (ev_lss rfl rfl) rfl ?_
                refine ynil' (kthn (hK29 _ _ ?_))
                clear hK29
                refine ccond rfl (fun h146 => ?_) (fun h146 => ?_)
                · (try simp only [decide_eq_true_eq, beq_iff_eq, beq_eq_false_iff_ne, decide_eq_decide, decide_eq_false_iff_not, Bool.not_eq_true', Bool.not_eq_false', Bool.not_eq_true, Bool.not_eq_false, Bool.not_not, ne_eq, Option.isNone_some, Option.isSome_some, Option.isNone_none, Option.isSome_none] at h146)
                  refine cskip' (kthn (hK28 _ _ ?_))
                  clear hK28
                  refine cseq ?_; intro K30 hK30
                  refine cblock ?_
                  refine cseq ?_; intro K31 hK31
                  refine creg ?_
                  refine y (ev_move rfl) rfl ?_
                  refine y (ev_move rfl) rfl ?_
                  refine ycall (gGet ?gw149) rfl Try.call25 (by repeat first | exact .nil | exact .z | apply Pk.s | apply Tk.cons) rfl ?_
                  case gw149 => exact hG82.wf
                  rintro v L' ⟨rfl, rfl⟩
                  rw [hA82]; have hbi := hbb i
                  refine y (ev_move rfl) rfl ?_
                  refine y (ev_extract rfl rfl) rfl ?_
                  refine y (ev_extract rfl rfl) rfl ?_
                  refine ya (ac_alloc Try.zeroValue50 rfl) rfl ?_
                  rintro v L' ⟨b19, rfl, rfl⟩
                  refine ya0 (ac_storeAll rfl rfl (by first | exact bytesV_one _ | (simp [Value.oneCell']; done) | (simp only [List.forall_mem_cons, List.not_mem_nil, false_implies, implies_true, svVal_one, and_true, true_and, and_self]; first | done | simp [Value.oneCell'])) Try.sizeOf50 (by repeat first | exact .z | apply Rp.s) (by first | rfl | assumption | (simp [*]; done) | (simp [*]; omega)) (by first | rfl | assumption | (simp [*]; done) | (simp [*]; omega))) ?_
                  rintro v L' ⟨rfl, rfl⟩
                  refine y (ev_assign rfl) rfl ?_
                  refine ynil' (kthn (hK31 _ _ ?_))
                  clear hK31
                  refine cseq ?_; intro K32 hK32
                  refine cdraw 14 [(0, true), (1, true), (2, true), (3, true), (4, true), (5, true), (6, true), (7, true), (8, true), (9, true), (10, true), (11, true), (12, true), (13, true)] (_) Try.mixed (by kernel_rfl) .refl ?_
                  rcases hbi with hbi | ⟨rfl, h2, h3, h4, hbi⟩ <;> rw [hbi]
                  · skip
                    refine hr rfl (ev_loadAll rfl Try.isAgg50 Try.sizeOf50 (by repeat first | exact .z | apply In.s) (by first | rfl | assumption | (simp [*]; done) | (simp [*]; omega))) rfl ?_
                    refine hr rfl (ev_move rfl) rfl ?_
                    refine hr rfl (ev_move rfl) rfl ?_
                    refine hr rfl (ev_ixV (rdV_sv (L := [svSeg sv 50 (versV A n)]) .z okv) rfl rfl Try.underlying47 Try.sizeOf50 (by omega) (by omega)) rfl ?_
                    refine hr rfl (ev_loadNV (us := [i64 (A.getB i).v0, i64 (A.getB i).v1]) (i * 2) (rdV_sv (L := [svSeg sv 50 (versV A n)]) .z okv) (by repeat first | exact .refl | exact .nil | exact .z | apply Pk.s | refine Ge.e ?_ | apply Ge.pick | apply Ge.drop) rfl Try.isAgg50 Try.sizeOf50 (by simp) (versV_at (by omega)) rfl) rfl ?_
                    refine hr rfl (ev_neqF rfl rfl (by kernel_rfl) (by simp only [List.cons.injEq, Value.int.injEq, Value.string.injEq, Value.bool.injEq, str_inj, intsV_inj, MsgM.cells_inj, true_and, and_true]; exact Iff.rfl)) rfl ?_
                    refine hr rfl (ev_move rfl) rfl ?_
                    refine hr1 rfl rfl rfl (ev_move rfl) rfl ?_
                    refine hr1 rfl rfl rfl (ev_move rfl) rfl ?_
                    refine hr1 rfl rfl rfl (ev_move rfl) rfl ?_
                    refine hr1 rfl rfl rfl (ev_ixV (rdV_sv (L := [svSeg sd 9 (datsV A n)]) .z okd) rfl rfl Try.underlying48 Try.sizeOf9 (by omega) (by omega)) rfl ?_
                    refine hr1 rfl rfl rfl (ev_loadV i (rdV_sv (L := [svSeg sd 9 (datsV A n)]) .z okd) (by repeat first | exact .refl | exact .nil | exact .z | apply Pk.s | refine Ge.e ?_ | apply Ge.pick | apply Ge.drop) rfl Try.isAgg9 (by simp) (datsV_at (by omega))) rfl ?_
                    first
                      | refine hr1 rfl rfl rfl (ev_neqL rfl rfl) rfl ?_
                      | refine hr1 rfl rfl rfl (ev_neqS rfl rfl) rfl ?_
                    try rw [show (decide ((A.getB i).data ≠ (A.getB i).data)) = false by simp]
                    refine hr rfl (ev_pick0 rfl rfl) rfl ?_
                    refine hnil ?_
                    refine y (ev_assign rfl) rfl ?_
                    refine hnoP' (kthn (hK32 _ _ ?_))
                    clear hK32
                    refine cseq ?_; intro K33 hK33
                    refine creg ?_
                    refine y (ev_move rfl) rfl ?_
                    refine y (ev_move rfl) rfl ?_
                    refine yg0 rfl rfl rfl rfl ?_
                    refine yg0 rfl rfl rfl rfl ?_
                    refine yg0 rfl rfl rfl rfl ?_
                    refine yg0u rfl rfl rfl ?_
                    refine yg0u rfl rfl rfl ?_
                    refine yg0u rfl rfl rfl ?_
                    refine yg0 rfl rfl rfl rfl ?_
                    refine yg0 rfl rfl rfl rfl ?_
                    refine yg0u rfl rfl rfl ?_
                    refine yg0u rfl rfl rfl ?_
                    refine yg0u rfl rfl rfl ?_
                    refine yg0 rfl rfl rfl rfl ?_
                    refine yg0 rfl rfl rfl rfl ?_
                    refine yg0u rfl rfl rfl ?_
                    refine yg0u rfl rfl rfl ?_
                    refine yg0u rfl rfl rfl ?_
                    refine yg0u rfl rfl rfl ?_
                    refine yg0 rfl rfl rfl rfl ?_
                    refine yg0 rfl rfl rfl rfl ?_
                    refine yg0u rfl rfl rfl ?_
                    refine yg0u rfl rfl rfl ?_
                    refine yg0u rfl rfl rfl ?_
                    refine yg0u rfl rfl rfl ?_
                    refine yg0u rfl rfl rfl ?_
                    refine yg0u rfl rfl rfl ?_
                    refine yg0u rfl rfl rfl ?_
                    refine yg0 rfl rfl rfl rfl ?_
                    refine yg0 rfl rfl rfl rfl ?_
                    refine yg0u rfl rfl rfl ?_
                    refine yg0u rfl rfl rfl ?_
                    refine yg0u rfl rfl rfl ?_
                    refine yg0u rfl rfl rfl ?_
                    refine yg0 rfl rfl rfl rfl ?_
                    refine y (ev_pick0 rfl rfl) rfl ?_
                    refine ynil' (kthn (hK33 _ _ ?_))
                    clear hK33
                    refine ccond0 rfl ?_
                    refine cskip' (kbn (kthn (hK30 _ _ ?_)))
                    clear hK30
                    refine creg ?_
                    refine y (ev_move rfl) rfl ?_
                    refine y (ev_add rfl rfl) rfl ?_
                    rw [show IntKind.i64.wrap ((i:Int) + 1) = ((i+1 : Nat) : Int) by rw [wr (by omega) (by omega)]; rfl]
                    refine y (ev_assign rfl) rfl ?_
                    refine ynil' (kthn ?_)
                    exact hL3 (i + 1) (by omega) (by omega) _ _ (by repeat first | exact sub_nil | refine sub_cons rfl ?_ | refine sub_cons' rfl (by simp) ?_) (by repeat first | exact .refl | exact .nil | exact .z | apply Pk.s | refine Ge.e ?_ | apply Ge.pick | apply Ge.drop)
                  · skip
                    refine hr rfl (ev_loadAll rfl Try.isAgg50 Try.sizeOf50 (by repeat first | exact .z | apply In.s) (by first | rfl | assumption | (simp [*]; done) | (simp [*]; omega))) rfl ?_
                    refine hr rfl (ev_move rfl) rfl ?_
                    refine hr rfl (ev_move rfl) rfl ?_
                    refine hr rfl (ev_ixV (rdV_sv (L := [svSeg sv 50 (versV A n)]) .z okv) rfl rfl Try.underlying47 Try.sizeOf50 (by omega) (by omega)) rfl ?_
                    refine hr rfl (ev_loadNV (us := [i64 (A.getB i).v0, i64 (A.getB i).v1]) (i * 2) (rdV_sv (L := [svSeg sv 50 (versV A n)]) .z okv) (by repeat first | exact .refl | exact .nil | exact .z | apply Pk.s | refine Ge.e ?_ | apply Ge.pick | apply Ge.drop) rfl Try.isAgg50 Try.sizeOf50 (by simp) (versV_at (by omega)) rfl) rfl ?_
                    refine hr rfl (ev_neqF rfl rfl (by kernel_rfl) (by simp only [List.cons.injEq, Value.int.injEq, Value.string.injEq, Value.bool.injEq, str_inj, intsV_inj, MsgM.cells_inj, true_and, and_true]; exact Iff.rfl)) rfl ?_
                    refine hr rfl (ev_move rfl) rfl ?_
                    refine hsplit 102 rfl (fun h184 => ?_) (fun h184 => ?_)
                    · (try simp only [decide_eq_true_eq, beq_iff_eq, beq_eq_false_iff_ne, decide_eq_decide, decide_eq_false_iff_not, Bool.not_eq_true', Bool.not_eq_false', Bool.not_eq_true, Bool.not_eq_false, Bool.not_not, ne_eq, Option.isNone_some, Option.isSome_some, Option.isNone_none, Option.isSome_none] at h184)
                      refine hr0 rfl rfl rfl rfl rfl ?_
                      refine hr0 rfl rfl rfl rfl rfl ?_
                      refine hr0 rfl rfl rfl rfl rfl ?_
                      refine hr0 rfl rfl rfl rfl rfl ?_
                      refine hr0 rfl rfl rfl rfl rfl ?_
                      refine hr0 rfl rfl rfl rfl rfl ?_
                      refine hr rfl (ev_pick1 rfl rfl) rfl ?_
                      refine hnil ?_
                      refine y (ev_assign rfl) rfl ?_
                      refine hnoP' (kthn (hK32 _ _ ?_))
                      clear hK32
                      refine cseq ?_; intro K34 hK34
                      refine creg ?_
                      refine y (ev_move rfl) rfl ?_
                      refine y (ev_move rfl) rfl ?_
                      refine yg1 rfl rfl ?_
                      refine y (ev_move rfl) rfl ?_
                      refine yg1 rfl rfl ?_
                      refine y (ev_not rfl) rfl ?_
                      refine yg1 rfl rfl ?_
                      refine y (ev_move rfl) rfl ?_
                      refine yg1 rfl rfl ?_
                      refine y (ev_fieldAddr 6 rfl Try.underlying35 rfl Try.sizeOf32) rfl ?_
                      refine yg1 rfl rfl ?_
                      refine y (ev_load rfl Try.isAgg32 (by repeat first | exact .z | apply In.s) rfl) rfl ?_
                      refine yg1 rfl rfl ?_
                      refine y (ev_neq rfl rfl) rfl ?_
                      rw [show (!decide (o.e = 0)) = false by simp [h2]]
                      refine yg1 rfl rfl ?_
                      refine y (ev_pick0 rfl rfl) rfl ?_
                      refine yg1 rfl rfl ?_
                      refine y (ev_move rfl) rfl ?_
                      refine yg1 rfl rfl ?_
                      refine y (ev_fieldAddr 0 rfl Try.underlying35 rfl Try.sizeOf3) rfl ?_
                      refine yg1 rfl rfl ?_
                      refine y (ev_load rfl Try.isAgg3 (by repeat first | exact .z | apply In.s) rfl) rfl ?_
                      refine yg1 rfl rfl ?_
                      refine y (ev_neq rfl rfl) rfl ?_
                      rw [show (!decide (m.kind = 10)) = false by simp [h3]]
                      refine yg1 rfl rfl ?_
                      refine y (ev_pick0 rfl rfl) rfl ?_
                      refine yg1 rfl rfl ?_
                      refine y (ev_move rfl) rfl ?_
                      refine yg1 rfl rfl ?_
                      refine y (ev_fieldAddr 4 rfl Try.underlying35 rfl Try.sizeOf3) rfl ?_
                      refine yg1 rfl rfl ?_
                      refine y (ev_load rfl Try.isAgg3 (by repeat first | exact .z | apply In.s) rfl) rfl ?_
                      refine yg1 rfl rfl ?_
                      refine y (ev_move rfl) rfl ?_
                      refine yg1 rfl rfl ?_
                      refine y (ev_neq rfl rfl) rfl ?_
                      rw [show (!decide (m.block = (i : Int))) = false by simp [h4]]
                      refine yg1 rfl rfl ?_
                      refine y (ev_pick0 rfl rfl) rfl ?_
                      refine yg1 rfl rfl ?_
                      refine y (ev_move rfl) rfl ?_
                      refine yg1 rfl rfl ?_
                      refine y (ev_loadAll rfl Try.isAgg50 Try.sizeOf50 (by repeat first | exact .z | apply In.s) (by first | rfl | assumption | (simp [*]; done) | (simp [*]; omega))) rfl ?_
                      refine yg1 rfl rfl ?_
                      refine y (ev_fieldAddr 1 rfl Try.underlying35 rfl Try.sizeOf2) rfl ?_
                      refine yg1 rfl rfl ?_
                      refine y (ev_load rfl Try.isAgg2 (by repeat first | exact .z | apply In.s) rfl) rfl ?_
                      refine yg1 rfl rfl ?_
                      refine y (ev_fieldAddr 2 rfl Try.underlying35 rfl Try.sizeOf2) rfl ?_
                      refine yg1 rfl rfl ?_
                      refine y (ev_load rfl Try.isAgg2 (by repeat first | exact .z | apply In.s) rfl) rfl ?_
                      refine yg1 rfl rfl ?_
                      refine y (ev_build (vs := [i64 m.epoch, i64 m.seq]) (zs := _) rfl Try.underlying50 Try.zeroValue50 rfl (.cons Try.sizeOf2 (.cons Try.sizeOf2 .nil)) ⟨⟨_, _, rfl, (by first | rfl | simp), (by first | decide | simp)⟩, ⟨⟨_, _, rfl, (by first | rfl | simp), (by first | decide | simp)⟩, trivial⟩⟩ (by dsimp [fillL, splice, vcells] <;> rfl)) rfl ?_
                      refine yg1 rfl rfl ?_
                      refine y (ev_neqF rfl rfl (by kernel_rfl) (by simp only [List.cons.injEq, Value.int.injEq, Value.string.injEq, Value.bool.injEq, str_inj, intsV_inj, MsgM.cells_inj, true_and, and_true]; exact Iff.rfl)) rfl ?_
                      refine yg1 rfl rfl ?_
                      refine y (ev_pick0 rfl rfl) rfl ?_
                      refine yg1 rfl rfl ?_
                      refine y (ev_move rfl) rfl ?_
                      refine yg1 rfl rfl ?_
                      refine y (ev_move rfl) rfl ?_
                      refine yg1 rfl rfl ?_
                      refine y (ev_fieldAddr 11 rfl Try.underlying35 rfl Try.sizeOf9) rfl ?_
                      refine yg1 rfl rfl ?_
                      refine y (ev_load rfl Try.isAgg9 (by repeat first | exact .z | apply In.s) rfl) rfl ?_
                      refine yg1 rfl rfl ?_
                      first
                        | refine y (ev_neqL rfl rfl) rfl ?_
                        | refine y (ev_neqS rfl rfl) rfl ?_
                      rw [show (decide (m.data ≠ m.data)) = false by simp]
                      refine yg1 rfl rfl ?_
                      refine y (ev_pick0 rfl rfl) rfl ?_
                      refine y (ev_pick1 rfl rfl) rfl ?_
                      refine ynil' (kthn (hK34 _ _ ?_))
                      clear hK34
                      refine ccond0 rfl ?_
                      refine cskip' (kbn (kthn (hK30 _ _ ?_)))
                      clear hK30
                      refine creg ?_
                      refine y (ev_move rfl) rfl ?_
                      refine y (ev_add rfl rfl) rfl ?_
                      rw [show IntKind.i64.wrap ((i:Int) + 1) = ((i+1 : Nat) : Int) by rw [wr (by omega) (by omega)]; rfl]
                      refine y (ev_assign rfl) rfl ?_
                      refine ynil' (kthn ?_)
                      exact hL3 (i + 1) (by omega) (by omega) _ _ (by repeat first | exact sub_nil | refine sub_cons rfl ?_ | refine sub_cons' rfl (by simp) ?_) (by repeat first | exact .refl | exact .nil | exact .z | apply Pk.s | refine Ge.e ?_ | apply Ge.pick | apply Ge.drop)
                    · (try simp only [decide_eq_true_eq, beq_iff_eq, beq_eq_false_iff_ne, decide_eq_decide, decide_eq_false_iff_not, Bool.not_eq_true', Bool.not_eq_false', Bool.not_eq_true, Bool.not_eq_false, Bool.not_not, ne_eq, Option.isNone_some, Option.isSome_some, Option.isNone_none, Option.isSome_none] at h184)
                      refine hr1 rfl rfl rfl (ev_move rfl) rfl ?_
                      refine hr1 rfl rfl rfl (ev_move rfl) rfl ?_
                      refine hr1 rfl rfl rfl (ev_move rfl) rfl ?_
                      refine hr1 rfl rfl rfl (ev_ixV (rdV_sv (L := [svSeg sd 9 (datsV A n)]) .z okd) rfl rfl Try.underlying48 Try.sizeOf9 (by omega) (by omega)) rfl ?_
                      refine hr1 rfl rfl rfl (ev_loadV i (rdV_sv (L := [svSeg sd 9 (datsV A n)]) .z okd) (by repeat first | exact .refl | exact .nil | exact .z | apply Pk.s | refine Ge.e ?_ | apply Ge.pick | apply Ge.drop) rfl Try.isAgg9 (by simp) (datsV_at (by omega))) rfl ?_
                      first
                        | refine hr1 rfl rfl rfl (ev_neqL rfl rfl) rfl ?_
                        | refine hr1 rfl rfl rfl (ev_neqS rfl rfl) rfl ?_
                      try rw [show (decide ((A.getB i).data ≠ (A.getB i).data)) = false by simp]
                      refine hr rfl (ev_pick0 rfl rfl) rfl ?_
                      refine hnil ?_
                      refine y (ev_assign rfl) rfl ?_
                      refine hnoP' (kthn (hK32 _ _ ?_))
                      clear hK32
                      refine cseq ?_; intro K35 hK35
                      refine creg ?_
                      refine y (ev_move rfl) rfl ?_
                      refine y (ev_move rfl) rfl ?_
                      refine ysplit 111 rfl (fun h236 => ?_) (fun h236 => ?_)
                      · (try simp only [decide_eq_true_eq, beq_iff_eq, beq_eq_false_iff_ne, decide_eq_decide, decide_eq_false_iff_not, Bool.not_eq_true', Bool.not_eq_false', Bool.not_eq_true, Bool.not_eq_false, Bool.not_not, ne_eq, Option.isNone_some, Option.isSome_some, Option.isNone_none, Option.isSome_none] at h236)
                        refine yg1 rfl rfl ?_
                        refine y (ev_move rfl) rfl ?_
                        refine yg1 rfl rfl ?_
                        refine y (ev_not rfl) rfl ?_
                        refine yg1 rfl rfl ?_
                        refine y (ev_move rfl) rfl ?_
                        refine yg1 rfl rfl ?_
                        refine y (ev_fieldAddr 6 rfl Try.underlying35 rfl Try.sizeOf32) rfl ?_
                        refine yg1 rfl rfl ?_
                        refine y (ev_load rfl Try.isAgg32 (by repeat first | exact .z | apply In.s) rfl) rfl ?_
                        refine yg1 rfl rfl ?_
                        refine y (ev_neq rfl rfl) rfl ?_
                        rw [show (!decide (o.e = 0)) = false by simp [h2]]
                        refine yg1 rfl rfl ?_
                        refine y (ev_pick0 rfl rfl) rfl ?_
                        refine yg1 rfl rfl ?_
                        refine y (ev_move rfl) rfl ?_
                        refine yg1 rfl rfl ?_
                        refine y (ev_fieldAddr 0 rfl Try.underlying35 rfl Try.sizeOf3) rfl ?_
                        refine yg1 rfl rfl ?_
                        refine y (ev_load rfl Try.isAgg3 (by repeat first | exact .z | apply In.s) rfl) rfl ?_
                        refine yg1 rfl rfl ?_
                        refine y (ev_neq rfl rfl) rfl ?_
                        rw [show (!decide (m.kind = 10)) = false by simp [h3]]
                        refine yg1 rfl rfl ?_
                        refine y (ev_pick0 rfl rfl) rfl ?_
                        refine yg1 rfl rfl ?_
                        refine y (ev_move rfl) rfl ?_
                        refine yg1 rfl rfl ?_
                        refine y (ev_fieldAddr 4 rfl Try.underlying35 rfl Try.sizeOf3) rfl ?_
                        refine yg1 rfl rfl ?_
                        refine y (ev_load rfl Try.isAgg3 (by repeat first | exact .z | apply In.s) rfl) rfl ?_
                        refine yg1 rfl rfl ?_
                        refine y (ev_move rfl) rfl ?_
                        refine yg1 rfl rfl ?_
                        refine y (ev_neq rfl rfl) rfl ?_
                        rw [show (!decide (m.block = (i : Int))) = false by simp [h4]]
                        refine yg1 rfl rfl ?_
                        refine y (ev_pick0 rfl rfl) rfl ?_
                        refine yg1 rfl rfl ?_
                        refine y (ev_move rfl) rfl ?_
                        refine yg1 rfl rfl ?_
                        refine y (ev_loadAll rfl Try.isAgg50 Try.sizeOf50 (by repeat first | exact .z | apply In.s) (by first | rfl | assumption | (simp [*]; done) | (simp [*]; omega))) rfl ?_
                        refine yg1 rfl rfl ?_
                        refine y (ev_fieldAddr 1 rfl Try.underlying35 rfl Try.sizeOf2) rfl ?_
                        refine yg1 rfl rfl ?_
                        refine y (ev_load rfl Try.isAgg2 (by repeat first | exact .z | apply In.s) rfl) rfl ?_
                        refine yg1 rfl rfl ?_
                        refine y (ev_fieldAddr 2 rfl Try.underlying35 rfl Try.sizeOf2) rfl ?_
                        refine yg1 rfl rfl ?_
                        refine y (ev_load rfl Try.isAgg2 (by repeat first | exact .z | apply In.s) rfl) rfl ?_
                        refine yg1 rfl rfl ?_
                        refine y (ev_build (vs := [i64 m.epoch, i64 m.seq]) (zs := _) rfl Try.underlying50 Try.zeroValue50 rfl (.cons Try.sizeOf2 (.cons Try.sizeOf2 .nil)) ⟨⟨_, _, rfl, (by first | rfl | simp), (by first | decide | simp)⟩, ⟨⟨_, _, rfl, (by first | rfl | simp), (by first | decide | simp)⟩, trivial⟩⟩ (by dsimp [fillL, splice, vcells] <;> rfl)) rfl ?_
                        refine yg1 rfl rfl ?_
                        refine y (ev_neqF rfl rfl (by kernel_rfl) (by simp only [List.cons.injEq, Value.int.injEq, Value.string.injEq, Value.bool.injEq, str_inj, intsV_inj, MsgM.cells_inj, true_and, and_true]; exact Iff.rfl)) rfl ?_
                        refine yg1 rfl rfl ?_
                        refine y (ev_pick0 rfl rfl) rfl ?_
                        refine yg1 rfl rfl ?_
                        refine y (ev_move rfl) rfl ?_
                        refine yg1 rfl rfl ?_
                        refine y (ev_move rfl) rfl ?_
                        refine yg1 rfl rfl ?_
                        refine y (ev_fieldAddr 11 rfl Try.underlying35 rfl Try.sizeOf9) rfl ?_
                        refine yg1 rfl rfl ?_
                        refine y (ev_load rfl Try.isAgg9 (by repeat first | exact .z | apply In.s) rfl) rfl ?_
                        refine yg1 rfl rfl ?_
                        first
                          | refine y (ev_neqL rfl rfl) rfl ?_
                          | refine y (ev_neqS rfl rfl) rfl ?_
                        rw [show (decide (m.data ≠ m.data)) = false by simp]
                        refine yg1 rfl rfl ?_
                        refine y (ev_pick0 rfl rfl) rfl ?_
                        refine y (ev_pick1 rfl rfl) rfl ?_
                        refine ynil' (kthn (hK35 _ _ ?_))
                        clear hK35
                        refine ccond0 rfl ?_
                        refine cskip' (kbn (kthn (hK30 _ _ ?_)))
                        clear hK30
                        refine creg ?_
                        refine y (ev_move rfl) rfl ?_
                        refine y (ev_add rfl rfl) rfl ?_
                        rw [show IntKind.i64.wrap ((i:Int) + 1) = ((i+1 : Nat) : Int) by rw [wr (by omega) (by omega)]; rfl]
                        refine y (ev_assign rfl) rfl ?_
                        refine ynil' (kthn ?_)
                        exact hL3 (i + 1) (by omega) (by omega) _ _ (by repeat first | exact sub_nil | refine sub_cons rfl ?_ | refine sub_cons' rfl (by simp) ?_) (by repeat first | exact .refl | exact .nil | exact .z | apply Pk.s | refine Ge.e ?_ | apply Ge.pick | apply Ge.drop)
                      · (try simp only [decide_eq_true_eq, beq_iff_eq, beq_eq_false_iff_ne, decide_eq_decide, decide_eq_false_iff_not, Bool.not_eq_true', Bool.not_eq_false', Bool.not_eq_true, Bool.not_eq_false, Bool.not_not, ne_eq, Option.isNone_some, Option.isSome_some, Option.isNone_none, Option.isSome_none] at h236)
                        refine yg0 rfl rfl rfl rfl ?_
                        refine yg0 rfl rfl rfl rfl ?_
                        refine yg0 rfl rfl rfl rfl ?_
                        refine yg0u rfl rfl rfl ?_
                        refine yg0u rfl rfl rfl ?_
                        refine yg0u rfl rfl rfl ?_
                        refine yg0 rfl rfl rfl rfl ?_
                        refine yg0 rfl rfl rfl rfl ?_
                        refine yg0u rfl rfl rfl ?_
                        refine yg0u rfl rfl rfl ?_
                        refine yg0u rfl rfl rfl ?_
                        refine yg0 rfl rfl rfl rfl ?_
                        refine yg0 rfl rfl rfl rfl ?_
                        refine yg0u rfl rfl rfl ?_
                        refine yg0u rfl rfl rfl ?_
                        refine yg0u rfl rfl rfl ?_
                        refine yg0u rfl rfl rfl ?_
                        refine yg0 rfl rfl rfl rfl ?_
                        refine yg0 rfl rfl rfl rfl ?_
                        refine yg0u rfl rfl rfl ?_
                        refine yg0u rfl rfl rfl ?_
                        refine yg0u rfl rfl rfl ?_
                        refine yg0u rfl rfl rfl ?_
                        refine yg0u rfl rfl rfl ?_
                        refine yg0u rfl rfl rfl ?_
                        refine yg0u rfl rfl rfl ?_
                        refine yg0 rfl rfl rfl rfl ?_
                        refine yg0 rfl rfl rfl rfl ?_
                        refine yg0u rfl rfl rfl ?_
                        refine yg0u rfl rfl rfl ?_
                        refine yg0u rfl rfl rfl ?_
                        refine yg0u rfl rfl rfl ?_
                        refine yg0 rfl rfl rfl rfl ?_
                        refine y (ev_pick0 rfl rfl) rfl ?_
                        refine ynil' (kthn (hK35 _ _ ?_))
                        clear hK35
                        refine ccond0 rfl ?_
                        refine cskip' (kbn (kthn (hK30 _ _ ?_)))
                        clear hK30
                        refine creg ?_
                        refine y (ev_move rfl) rfl ?_
                        refine y (ev_add rfl rfl) rfl ?_
                        rw [show IntKind.i64.wrap ((i:Int) + 1) = ((i+1 : Nat) : Int) by rw [wr (by omega) (by omega)]; rfl]
                        refine y (ev_assign rfl) rfl ?_
                        refine ynil' (kthn ?_)
                        exact hL3 (i + 1) (by omega) (by omega) _ _ (by repeat first | exact sub_nil | refine sub_cons rfl ?_ | refine sub_cons' rfl (by simp) ?_) (by repeat first | exact .refl | exact .nil | exact .z | apply Pk.s | refine Ge.e ?_ | apply Ge.pick | apply Ge.drop)
                · (try simp only [decide_eq_true_eq, beq_iff_eq, beq_eq_false_iff_ne, decide_eq_decide, decide_eq_false_iff_not, Bool.not_eq_true', Bool.not_eq_false', Bool.not_eq_true, Bool.not_eq_false, Bool.not_not, ne_eq, Option.isNone_some, Option.isSome_some, Option.isNone_none, Option.isSome_none] at h146)
                  refine cexit (kthx (kthx (kbx (kthn ?_))))
                  exact ksub (by repeat first | exact sub_nil | refine sub_cons rfl ?_ | refine sub_cons' rfl (by simp) ?_) (by repeat first | exact .refl | exact .nil | exact .z | apply Pk.s | refine Ge.e ?_ | apply Ge.pick | apply Ge.drop) (hJ3 i ⟨hI3o, by first | trivial | omega⟩)
              clear hK19
              refine cblock ?_
              refine cloop (A := Nat × Sv × Sv) (fun x => [(12, i64 x.1), (10, svVal x.2.1 x.1), (11, svVal x.2.2 x.1), (9, ptr b9), (8, i64 z), (6, ptr X26.s), (7, i64 n), (1, lv)]) (fun x => [svSeg x.2.1 50 (versV A x.1), svSeg x.2.2 9 (datsV A x.1), sc b9 m.cells 35, stG X26 D n] ++ R) (fun x => x.1 ≤ n ∧ svOk x.2.1 x.1 2 (versV A x.1) ∧ svOk x.2.2 x.1 1 (datsV A x.1)) (fun x => n - x.1) ((0, some (b56, 0, []), some (b57, 0, []))) ?_ (by repeat first | exact sub_nil | refine sub_cons rfl ?_ | refine sub_cons' rfl (by simp) ?_) (by repeat first | exact .refl | exact .nil | exact .z | apply Pk.s | refine Ge.e ?_ | apply Ge.pick | apply Ge.drop) ?_
              · exact ⟨Nat.zero_le _, ⟨Nat.le_refl _, by decide, rfl, rfl⟩, ⟨Nat.le_refl _, by decide, rfl, rfl⟩⟩
              rintro ⟨i, sv, sd⟩ hI2 KL2 hL2
              have hI2o := hI2
              obtain ⟨hi2, okv, okd⟩ := hI2; dsimp only at hi2 okv okd ⊢
              refine cseq ?_; intro K36 hK36
              refine cseq ?_; intro K37 hK37
              refine creg ?_
              refine y (ev_move rfl) rfl ?_
              refine y (ev_move rfl) rfl ?_
              refine y (ev_lss rfl rfl) rfl ?_
              refine ynil' (kthn (hK37 _ _ ?_))
              clear hK37
              refine ccond rfl (fun h281 => ?_) (fun h281 => ?_)
              · (try simp only [decide_eq_true_eq, beq_iff_eq, beq_eq_false_iff_ne, decide_eq_decide, decide_eq_false_iff_not, Bool.not_eq_true', Bool.not_eq_false', Bool.not_eq_true, Bool.not_eq_false, Bool.not_not, ne_eq, Option.isNone_some, Option.isSome_some, Option.isNone_none, Option.isSome_none] at h281)
                refine cskip' (kthn (hK36 _ _ ?_))
                clear hK36
                refine cseq ?_; intro K38 hK38
                refine cblock ?_
                refine cseq ?_; intro K39 hK39
                refine creg ?_
                refine y (ev_move rfl) rfl ?_
                refine y (ev_move rfl) rfl ?_
                refine ycall (gGet ?gw284) rfl Try.call25 (by repeat first | exact .nil | exact .z | apply Pk.s | apply Tk.cons) rfl ?_
                case gw284 => exact hG.wf
                rintro v L' ⟨rfl, rfl⟩
                rw [hA]
                refine y (ev_move rfl) rfl ?_
                refine y (ev_extract rfl rfl) rfl ?_
                refine y (ev_extract rfl rfl) rfl ?_
                refine ya (ac_alloc Try.zeroValue50 rfl) rfl ?_
                rintro v L' ⟨b13, rfl, rfl⟩
                refine ya0 (ac_storeAll rfl rfl (by first | exact bytesV_one _ | (simp [Value.oneCell']; done) | (simp only [List.forall_mem_cons, List.not_mem_nil, false_implies, implies_true, svVal_one, and_true, true_and, and_self]; first | done | simp [Value.oneCell'])) Try.sizeOf50 (by repeat first | exact .z | apply Rp.s) (by first | rfl | assumption | (simp [*]; done) | (simp [*]; omega)) (by first | rfl | assumption | (simp [*]; done) | (simp [*]; omega))) ?_
                rintro v L' ⟨rfl, rfl⟩
                refine y (ev_assign rfl) rfl ?_
                refine ynil' (kthn (hK39 _ _ ?_))
                clear hK39
                refine cseq ?_; intro K40 hK40
                refine creg ?_
                refine y (ev_move rfl) rfl ?_
                refine y (ev_loadAll rfl Try.isAgg50 Try.sizeOf50 (by repeat first | exact .z | apply In.s) (by first | rfl | assumption | (simp [*]; done) | (simp [*]; omega))) rfl ?_
                refine ya (ac_bsliceR rfl Try.underlying47 Try.sizeOf50 Try.zeroValue50 rfl rfl rfl rfl ⟨⟨_, _, rfl, (by first | rfl | simp), (by first | decide | simp)⟩, trivial⟩ (by dsimp [fillL, splice, vcells, reps] <;> rfl)) rfl ?_
                rintro v L' ⟨b71, rfl, rfl⟩
                refine ya (ac_append (s := sv) (xs := versV A i) (m := i) (k := 1) (us := [i64 (A.getB i).v0, i64 (A.getB i).v1]) (size := 2) rfl rfl (by repeat first | exact .z | apply Pk.s) Try.underlying47 Try.underlying47 (by intro q hq; cases hq) Try.typeInfo50 rfl rfl rfl ?ok294 ?src294 ?one294 ?big294) rfl ?_
                case ok294 => exact okv
                case src294 => exact src_at (by repeat first | exact .z | apply In.s) rfl rfl
                case one294 => intro u hu; simp at hu; rcases hu with rfl | rfl <;> rfl
                case big294 => show (_ + _) * 17 ≤ _; omega
                rintro v L' ⟨s72, rfl, ok72, rfl⟩
                rw [← versV_succ] at ok72 ⊢
                refine y (ev_assign rfl) rfl ?_
                refine ynil' (kthn (hK40 _ _ ?_))
                clear hK40
                refine creg ?_
                refine y (ev_move rfl) rfl ?_
                refine y (ev_move rfl) rfl ?_
                refine ya (ac_bsliceR rfl Try.underlying48 Try.sizeOf9 Try.zeroValue9 rfl rfl rfl rfl ⟨⟨_, _, rfl, (by first | rfl | simp), (by first | decide | simp)⟩, trivial⟩ (by dsimp [fillL, splice, vcells, reps] <;> rfl)) rfl ?_
                rintro v L' ⟨b75, rfl, rfl⟩
                refine ya (ac_append (s := sd) (xs := datsV A i) (m := i) (k := 1) (us := [str (A.getB i).data]) (size := 1) rfl rfl (by repeat first | exact .z | apply Pk.s) Try.underlying48 Try.underlying48 (by intro q hq; cases hq) Try.typeInfo9 rfl rfl rfl ?ok299 ?src299 ?one299 ?big299) rfl ?_
                case ok299 => exact okd
                case src299 => exact src_at (by repeat first | exact .z | apply In.s) rfl rfl
                case one299 => intro u hu; simp at hu; rcases hu with rfl; rfl
                case big299 => show (_ + _) * 17 ≤ _; omega
                rintro v L' ⟨s76, rfl, ok76, rfl⟩
                rw [← datsV_succ] at ok76 ⊢
                refine y (ev_assign rfl) rfl ?_
                refine ynil' (kbn (kthn (hK38 _ _ ?_)))
                clear hK38
                refine creg ?_
                refine y (ev_move rfl) rfl ?_
                refine y (ev_add rfl rfl) rfl ?_
                rw [show IntKind.i64.wrap ((i:Int) + 1) = ((i+1 : Nat) : Int) by rw [wr (by omega) (by omega)]; rfl]
                refine y (ev_assign rfl) rfl ?_
                refine ynil' (kthn ?_)
                exact hL2 ((i + 1, s72, s76)) (⟨by dsimp only; omega, ok72, ok76⟩) (by dsimp only; omega) _ _ (by repeat first | exact sub_nil | refine sub_cons rfl ?_ | refine sub_cons' rfl (by simp) ?_) (by repeat first | exact .refl | exact .nil | exact .z | apply Pk.s | refine Ge.e ?_ | apply Ge.pick | apply Ge.drop)
              · (try simp only [decide_eq_true_eq, beq_iff_eq, beq_eq_false_iff_ne, decide_eq_decide, decide_eq_false_iff_not, Bool.not_eq_true', Bool.not_eq_false', Bool.not_eq_true, Bool.not_eq_false, Bool.not_not, ne_eq, Option.isNone_some, Option.isSome_some, Option.isNone_none, Option.isSome_none] at h281)
                refine cexit (kthx (kthx (kbx (kthn ?_))))
                exact ksub (by repeat first | exact sub_nil | refine sub_cons rfl ?_ | refine sub_cons' rfl (by simp) ?_) (by repeat first | exact .refl | exact .nil | exact .z | apply Pk.s | refine Ge.e ?_ | apply Ge.pick | apply Ge.drop) (hJ2 ⟨i, sv, sd⟩ ⟨hI2o, by first | trivial | omega⟩)
        · (try simp only [decide_eq_true_eq, beq_iff_eq, beq_eq_false_iff_ne, decide_eq_decide, decide_eq_false_iff_not, Bool.not_eq_true', Bool.not_eq_false', Bool.not_eq_true, Bool.not_eq_false, Bool.not_not, ne_eq, Option.isNone_some, Option.isSome_some, Option.isNone_none, Option.isSome_none] at h25)
          refine cexit (kthx (kthx (kbx (kthn (hK7 _ _ ?_)))))
          clear hK7
          refine cseq ?_; intro K41 hK41
          refine creg ?_
          refine y (ev_assign rfl) rfl ?_
          refine ynil' (kthn (hK41 _ _ ?_))
          clear hK41
          refine cret ?_
          first
            | (exfalso; omega; done)
            | (refine kretv Try.results5 rfl (L1 := R) (by repeat first | exact .refl | exact .nil | exact .z | apply Pk.s | refine Ge.e ?_ | apply Ge.pick | apply Ge.drop) ?_
               exact ⟨_, ⟨by first | rfl | (exfalso; simp_all; done), rfl⟩, by first | rfl | (exfalso; simp_all; done)⟩)
      · (try simp only [decide_eq_true_eq, beq_iff_eq, beq_eq_false_iff_ne, decide_eq_decide, decide_eq_false_iff_not, Bool.not_eq_true', Bool.not_eq_false', Bool.not_eq_true, Bool.not_eq_false, Bool.not_not, ne_eq, Option.isNone_some, Option.isSome_some, Option.isNone_none, Option.isSome_none] at h21)
        refine yg0 rfl rfl rfl rfl ?_
        refine yg0 rfl rfl rfl rfl ?_
        refine y (ev_pick0 rfl rfl) rfl ?_
        refine ynil' (kthn (hK10 _ _ ?_))
        clear hK10
        refine ccond0 rfl ?_
        refine cexit (kthx (kthx (kbx (kthn (hK7 _ _ ?_)))))
        clear hK7
        refine cseq ?_; intro K42 hK42
        refine creg ?_
        refine y (ev_assign rfl) rfl ?_
        refine ynil' (kthn (hK42 _ _ ?_))
        clear hK42
        refine cret ?_
        first
          | (exfalso; omega; done)
          | (refine kretv Try.results5 rfl (L1 := R) (by repeat first | exact .refl | exact .nil | exact .z | apply Pk.s | refine Ge.e ?_ | apply Ge.pick | apply Ge.drop) ?_
             exact ⟨_, ⟨by first | rfl | (exfalso; simp_all; done), rfl⟩, by first | rfl | (exfalso; simp_all; done)⟩)
end W
end Go.Proofs
