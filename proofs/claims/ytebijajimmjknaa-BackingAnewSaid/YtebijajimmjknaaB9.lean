/- A part of the proof: contracts and plain lemmas, each without conditions beyond those that it names. -/
import Derived.Test.YtebijajimmjknaaB8
set_option linter.unusedVariables false
set_option linter.unusedSimpArgs false
set_option linter.constructorNameAsVariable false
namespace Go.Proofs
open Go Go.Sl
namespace W
set_option linter.unusedVariables false
theorem lawTwice [Env] {R : List Seg} {bv av : Int} {lv : Value} {l : List MsgM} (hb : 0 ≤ bv ∧ bv ≤ 255) (ha : 0 ≤ av ∧ av ≤ 255) (hv : RdV R lv l.length (msgsV l)) :
    Con Try.prog 4 [.int .u8 bv, lv, .int .u8 av] [] R (Is (.bool true) []) := by
  have hvl := hv.lenVal
  refine con_enter Try.func4 Try.ntmps4 rfl rfl ?_
  refine cseq ?_; intro K1 hK1
  refine creg ?_
  refine y (ev_assign rfl) rfl ?_
  refine ynil' (kthn (hK1 _ _ ?_))
  clear hK1
  refine cseq ?_; intro K2 hK2
  refine cseq ?_; intro K3 hK3
  refine creg ?_
  refine ycall (bAwake) rfl Try.call20 (by repeat first | exact .nil | exact .z | apply Pk.s | apply Tk.cons) rfl ?_
  rintro v L' ⟨rfl, rfl⟩
  skip
  · skip
    refine y (ev_not rfl) rfl ?_
    refine ynil' (kthn (hK3 _ _ ?_))
    clear hK3
    refine ccond0 rfl ?_
    refine cskip' (kthn (hK2 _ _ ?_))
    clear hK2
    refine cseq ?_; intro K4 hK4
    refine creg ?_
    refine y (ev_move rfl) rfl ?_
    refine ycall (bNewG ?bl5) rfl Try.call21 (by repeat first | exact .nil | exact .z | apply Pk.s | apply Tk.cons) rfl ?_
    case bl5 => exact hb
    rintro v L' ⟨X31, hX31, rfl, rfl⟩
    obtain ⟨n1, n32⟩ := nBl_le bv
    have hA0 := absS_new (nBl bv)
    generalize hn0 : nBl bv = n at *
    generalize Dev.new (2 + 2 * n) = D0 at *
    refine y (ev_move rfl) rfl ?_
    refine y (ev_extract rfl rfl) rfl ?_
    refine y (ev_extract rfl rfl) rfl ?_
    refine y (ev_extract rfl rfl) rfl ?_
    refine y (ev_assign rfl) rfl ?_
    refine y (ev_assign rfl) rfl ?_
    refine y (ev_assign rfl) rfl ?_
    refine ynil' (kthn (hK4 _ _ ?_))
    clear hK4
    refine cseq ?_; intro K5 hK5
    refine cseq ?_; intro K6 hK6
    refine creg ?_
    refine y (ev_move rfl) rfl ?_
    skip
    · skip
      refine y (ev_eqlPnil rfl rfl Try.underlying42) rfl ?_
      refine ynil' (kthn (hK6 _ _ ?_))
      clear hK6
      refine ccond0 rfl ?_
      refine cskip' (kthn (hK5 _ _ ?_))
      clear hK5
      refine cseq ?_; intro K7 hK7
      refine creg ?_
      refine y (ev_move rfl) rfl ?_
      first
        | refine y (ev_len rfl Try.underlying41) rfl ?_
        | refine y (ev_lenSv rfl Try.underlying41 (by assumption)) rfl ?_
        | refine y (ev_lenV rfl Try.underlying41 (RdV.lenVal (by assumption))) rfl ?_
        | refine y (ev_lenV rfl Try.underlying41 (RdB.lenVal (by assumption))) rfl ?_
      refine y (ev_min rfl rfl) rfl ?_
      rw [min60_eq]
      have hk1 : min60 l.length ≤ 60 := by unfold min60; omega
      have hk2 : min60 l.length ≤ l.length := by unfold min60; omega
      generalize min60 l.length = kk at *
      refine y (ev_assign rfl) rfl ?_
      refine ynil' (kthn (hK7 _ _ ?_))
      clear hK7
      refine cseq ?_; intro K8 hK8
      refine cseq ?_; intro K9 hK9
      refine creg ?_
      refine y (ev_assign rfl) rfl ?_
      refine ynil' (kthn (hK9 _ _ ?_))
      clear hK9
      have hJ1 : ∀ x : Nat × Dev, ((SGood X31.ps x.2 n x.1 ∧ x.1 ≤ kk ∧ ∀ j m, j < x.1 → l[j]? = some m → (absS x.2 n).done m) ∧ (x.1 = kk)) → Sk 158 K8 ([(11, i64 x.1), (10, i64 kk), (8, ptr X31.s), (9, i64 n), (1, lv), (2, .int .u8 av)]) ([stG X31 x.2 n] ++ R) := by
        rintro ⟨i, D⟩ ⟨hI1, hX1⟩
        refine hK8 _ _ ?_
        obtain ⟨hG, hi, hdone⟩ := hI1; dsimp only at hG hi hdone ⊢
        dsimp only at hX1; have hx := hX1.symm; subst hx; obtain ⟨A, hA⟩ : ∃ A, absS D n = A := ⟨_, rfl⟩; rw [hA] at hdone
        refine cseq ?_; intro K10 hK10
        refine cseq ?_; intro K11 hK11
        refine creg ?_
        refine y (ev_move rfl) rfl ?_
        refine y (ev_eql rfl rfl) rfl ?_
        refine ynil' (kthn (hK11 _ _ ?_))
        clear hK11
        refine ccond rfl (fun h22 => ?_) (fun h22 => ?_)
        · (try simp only [decide_eq_true_eq, beq_iff_eq, beq_eq_false_iff_ne, decide_eq_decide, decide_eq_false_iff_not, Bool.not_eq_true', Bool.not_eq_false', Bool.not_eq_true, Bool.not_eq_false, Bool.not_not, ne_eq, Option.isNone_some, Option.isSome_some, Option.isNone_none, Option.isSome_none] at h22)
          refine cseq ?_; intro K12 hK12
          refine creg ?_
          refine y (ev_assign rfl) rfl ?_
          refine ynil' (kthn (hK12 _ _ ?_))
          clear hK12
          refine cret (kthr ?_)
          first
            | (exfalso; omega; done)
            | (refine kretv Try.results4 rfl (L1 := R) (by repeat first | exact .refl | exact .nil | exact .z | apply Pk.s | refine Ge.e ?_ | apply Ge.pick | apply Ge.drop) ?_
               exact ⟨_, ⟨by rfl, rfl⟩, by rfl⟩)
        · (try simp only [decide_eq_true_eq, beq_iff_eq, beq_eq_false_iff_ne, decide_eq_decide, decide_eq_false_iff_not, Bool.not_eq_true', Bool.not_eq_false', Bool.not_eq_true, Bool.not_eq_false, Bool.not_not, ne_eq, Option.isNone_some, Option.isSome_some, Option.isNone_none, Option.isSome_none] at h22)
          refine cskip' (kthn (hK10 _ _ ?_))
          clear hK10
          refine cseq ?_; intro K13 hK13
          refine creg ?_
          refine y (ev_move rfl) rfl ?_
          refine ycall (gToken) rfl Try.call23 (by repeat first | exact .nil | exact .z | apply Pk.s | apply Tk.cons) rfl ?_
          rintro v L' ⟨rfl, rfl⟩
          rw [hA]
          refine y (ev_move rfl) rfl ?_
          refine ycall (gTable ?gw27) rfl Try.call24 (by repeat first | exact .nil | exact .z | apply Pk.s | apply Tk.cons) rfl ?_
          case gw27 => exact hG.wf
          rintro v L' ⟨rfl, rfl⟩
          rw [hA]
          have htl : A.tab.length = 4 := by rw [← hA]; exact hG.wf.tab
          refine ya (ac_alloc Try.zeroValue33 rfl) rfl ?_
          rintro v L' ⟨b13, rfl, rfl⟩
          refine y (ev_assign rfl) rfl ?_
          refine ya0 (ac_storeN (vs' := intsV A.tab) rfl rfl (intsV_one _) Try.sizeOf33 (by repeat first | exact .z | apply Rp.s) (by simp [intsV, htl]) (by simp [intsV, htl]) (by simp [intsV, htl])) ?_
          rintro v L' ⟨rfl, rfl⟩
          refine ynil' (kthn (hK13 _ _ ?_))
          clear hK13
          refine cseq ?_; intro K14 hK14
          refine creg ?_
          refine ya (ac_bslice0 Try.underlying47 Try.sizeOf50) rfl ?_
          rintro v L' ⟨b73, rfl, rfl⟩
          refine y (ev_assign rfl) rfl ?_
          refine ynil' (kthn (hK14 _ _ ?_))
          clear hK14
          refine cseq ?_; intro K15 hK15
          refine creg ?_
          refine ya (ac_bslice0 Try.underlying48 Try.sizeOf9) rfl ?_
          rintro v L' ⟨b74, rfl, rfl⟩
          refine y (ev_assign rfl) rfl ?_
          refine ynil' (kthn (hK15 _ _ ?_))
          clear hK15
          refine cseq ?_; intro K16 hK16
          refine cseq ?_; intro K17 hK17
          refine creg ?_
          refine y (ev_assign rfl) rfl ?_
          refine ynil' (kthn (hK17 _ _ ?_))
          clear hK17
          have hJ2 : ∀ x : Nat × Sv × Sv, ((x.1 ≤ n ∧ svOk x.2.1 x.1 2 (versV A x.1) ∧ svOk x.2.2 x.1 1 (datsV A x.1)) ∧ (x.1 = n)) → Sk 158 K16 ([(16, i64 x.1), (14, svVal x.2.1 x.1), (15, svVal x.2.2 x.1), (13, ptr b13), (12, i64 A.ep), (10, i64 kk), (8, ptr X31.s), (9, i64 n), (1, lv), (2, .int .u8 av)]) ([svSeg x.2.1 50 (versV A x.1), svSeg x.2.2 9 (datsV A x.1), sc b13 (intsV A.tab) 33, stG X31 D n] ++ R) := by
            rintro ⟨i, sv, sd⟩ ⟨hI2, hX2⟩
            refine hK16 _ _ ?_
            obtain ⟨hi2, okv, okd⟩ := hI2; dsimp only at hi2 okv okd ⊢
            dsimp only at hX2; have hx := hX2.symm; subst hx
            refine cseq ?_; intro K18 hK18
            refine creg ?_
            refine y (ev_move rfl) rfl ?_
            refine y (ev_move rfl) rfl ?_
            refine y (ev_conv rfl Try.underlying5 Try.underlying3) rfl ?_
            refine y (ev_move rfl) rfl ?_
            refine y (ev_rem rfl rfl (by omega)) rfl ?_
            obtain ⟨z, hz, hz1⟩ : ∃ z : Nat, (IntKind.i64.wrap av).tmod (kk : Int) = (z : Int) ∧ z < kk := by
              have h1 : av % (kk : Int) < kk := Int.emod_lt_of_pos _ (by omega)
              have h2 : 0 ≤ av % (kk : Int) := Int.emod_nonneg _ (by omega)
              exact ⟨(av % (kk : Int)).toNat, by rw [wr (x := av) (by omega) (by omega), Int.tmod_eq_emod_of_nonneg ha.1]; omega, by omega⟩
            rw [hz]
            obtain ⟨m, hm⟩ : ∃ m, l[z]? = some m := ⟨_, List.getElem?_eq_getElem (by omega)⟩
            have hdn := hdone z m hz1 hm
            have hdt := done_take hdn
            obtain ⟨a, hat⟩ : ∃ a, (A.take m).1 = a := ⟨_, rfl⟩
            refine y (ev_ixV hv rfl rfl Try.underlying41 Try.sizeOf35 (by omega) (by omega)) rfl ?_
            refine y (ev_loadNV (us := m.cells) (z * 13) hv (by repeat first | exact .refl | exact .nil | exact .z | apply Pk.s | refine Ge.e ?_ | apply Ge.pick | apply Ge.drop) rfl Try.isAgg35 Try.sizeOf35 (by simp) (msgsV_get hm) rfl) rfl ?_
            refine ya (ac_alloc Try.zeroValue35 rfl) rfl ?_
            rintro v L' ⟨b19, rfl, rfl⟩
            refine ya0 (ac_storeAll rfl rfl (msg_one m) Try.sizeOf35 (by repeat first | exact .z | apply Rp.s) (by rfl) (by rfl)) ?_
            rintro v L' ⟨rfl, rfl⟩
            refine ynil' (kthn (hK18 _ _ ?_))
            clear hK18
            refine cseq ?_; intro K19 hK19
            refine creg ?_
            refine y (ev_move rfl) rfl ?_
            refine y (ev_loadN (u := m.cells) rfl Try.isAgg35 Try.sizeOf35 (by repeat first | exact .z | apply In.s) rfl rfl) rfl ?_
            refine ycall (gTake (k := kk) ?gd47 ?gk47) rfl Try.call22 (by repeat first | exact .nil | exact .z | apply Pk.s | apply Tk.cons) rfl ?_
            case gd47 => exact hG
            case gk47 => omega
            rintro v L' ⟨D104, rfl, hG104, hA104, rfl⟩
            rw [hA] at hA104 ⊢; rw [hdt] at hA104; rw [hat]
            refine y (ev_move rfl) rfl ?_
            refine y (ev_extract rfl rfl) rfl ?_
            refine y (ev_extract rfl rfl) rfl ?_
            refine ya (ac_alloc Try.zeroValue35 rfl) rfl ?_
            rintro v L' ⟨b20, rfl, rfl⟩
            refine ya0 (ac_storeAll rfl rfl (msg_one _) Try.sizeOf35 (by repeat first | exact .z | apply Rp.s) (by rfl) (by rfl)) ?_
            rintro v L' ⟨rfl, rfl⟩
            refine y (ev_assign rfl) rfl ?_
            refine ynil' (kthn (hK19 _ _ ?_))
            clear hK19
            refine cseq ?_; intro K20 hK20
            refine creg ?_
            refine y (ev_move rfl) rfl ?_
            refine y (ev_loadN (u := m.cells) rfl Try.isAgg35 Try.sizeOf35 (by repeat first | exact .z | apply In.s) rfl rfl) rfl ?_
            refine ycall (gTake (k := kk + 1) ?gd56 ?gk56) rfl Try.call22 (by repeat first | exact .nil | exact .z | apply Pk.s | apply Tk.cons) rfl ?_
            case gd56 => exact hG104
            case gk56 => omega
            rintro v L' ⟨D110, rfl, hG110, hA110, rfl⟩
            rw [hA104] at hA110 ⊢; rw [hdt] at hA110; rw [hat]
            refine y (ev_move rfl) rfl ?_
            refine y (ev_extract rfl rfl) rfl ?_
            refine y (ev_extract rfl rfl) rfl ?_
            refine ya (ac_alloc Try.zeroValue35 rfl) rfl ?_
            rintro v L' ⟨b22, rfl, rfl⟩
            refine ya0 (ac_storeAll rfl rfl (msg_one _) Try.sizeOf35 (by repeat first | exact .z | apply Rp.s) (by rfl) (by rfl)) ?_
            rintro v L' ⟨rfl, rfl⟩
            refine y (ev_assign rfl) rfl ?_
            refine ynil' (kthn (hK20 _ _ ?_))
            clear hK20
            refine cseq ?_; intro K21 hK21
            refine cseq ?_; intro K22 hK22
            refine cdraw 19 [(0, true), (1, true), (2, true), (3, true), (4, true), (5, true), (6, true), (7, true), (8, true), (9, true), (11, true), (10, false), (12, true), (13, true), (14, true), (15, true), (17, true), (16, false), (18, true)] (_) Try.mixed (by kernel_rfl) .refl ?_
            refine hr rfl (ev_loadN (u := a.1.cells) rfl Try.isAgg35 Try.sizeOf35 (by repeat first | exact .z | apply In.s) rfl rfl) rfl ?_
            refine hr rfl (ev_loadN (u := a.1.cells) rfl Try.isAgg35 Try.sizeOf35 (by repeat first | exact .z | apply In.s) rfl rfl) rfl ?_
            refine hr rfl (ev_neqF rfl rfl (by kernel_rfl) (by simp only [List.cons.injEq, Value.int.injEq, Value.string.injEq, Value.bool.injEq, str_inj, intsV_inj, MsgM.cells_inj, true_and, and_true]; exact Iff.rfl)) rfl ?_
            skip
            · skip
              refine hr rfl (ev_move rfl) rfl ?_
              refine hr1 rfl rfl rfl (ev_move rfl) rfl ?_
              refine hr1 rfl rfl rfl (ev_move rfl) rfl ?_
              refine hr1 rfl rfl rfl (ev_neqB rfl rfl Try.underlying4) rfl ?_
              rw [show (!(a.2 == a.2)) = false by simp]
              refine hr rfl (ev_pick0 rfl rfl) rfl ?_
              refine hr rfl (ev_move rfl) rfl ?_
              refine hr1 rfl rfl rfl (ev_move rfl) rfl ?_
              refine hr1 rfl rfl rfl (ev_move rfl) rfl ?_
              refine hcall1 rfl rfl rfl (gToken) rfl Try.call23 (by repeat first | exact .nil | exact .z | apply Pk.s | apply Tk.cons) rfl ?_
              rintro v L' ⟨rfl, rfl⟩; refine ⟨(by repeat first | exact .refl | exact .nil | exact .z | apply Pk.s | refine Ge.e ?_ | apply Ge.pick | apply Ge.drop), ?_⟩
              rw [hA110]
              refine hr1 rfl rfl rfl (ev_neq rfl rfl) rfl ?_
              rw [show (!decide (A.ep = A.ep)) = false by simp]
              refine hr rfl (ev_pick0 rfl rfl) rfl ?_
              refine hr rfl (ev_move rfl) rfl ?_
              refine hr1 rfl rfl rfl (ev_move rfl) rfl ?_
              refine hr1 rfl rfl rfl (ev_loadN (u := intsV A.tab) rfl Try.isAgg33 Try.sizeOf33 (by repeat first | exact .z | apply In.s) (by rw [List.drop_zero, List.take_of_length_le (by simp [intsV, htl])]) (by simp [intsV, htl])) rfl ?_
              refine hcall1 rfl rfl rfl (gTable ?gw80) rfl Try.call24 (by repeat first | exact .nil | exact .z | apply Pk.s | apply Tk.cons) rfl ?_
              case gw80 => exact hG110.wf
              rintro v L' ⟨rfl, rfl⟩; refine ⟨(by repeat first | exact .refl | exact .nil | exact .z | apply Pk.s | refine Ge.e ?_ | apply Ge.pick | apply Ge.drop), ?_⟩
              rw [hA110]
              refine hr1 rfl rfl rfl (ev_neqI (k := 4) rfl rfl (by kernel_rfl) (by kernel_rfl) (by kernel_rfl) htl htl) rfl ?_
              rw [show (!decide (A.tab = A.tab)) = false by simp]
              refine hnil ?_
              refine y (ev_pick0 rfl rfl) rfl ?_
              refine hnoP' (kthn (hK22 _ _ ?_))
              clear hK22
              refine ccond0 rfl ?_
              refine cskip' (kthn (hK21 _ _ ?_))
              clear hK21
              refine cseq ?_; intro K23 hK23
              refine cseq ?_; intro K24 hK24
              refine creg ?_
              refine y (ev_assign rfl) rfl ?_
              refine ynil' (kthn (hK24 _ _ ?_))
              clear hK24
              have hJ3 : ∀ x : Nat, ((x ≤ n) ∧ (x = n)) → Sk 158 K23 ([(24, i64 x), (14, svVal sv n), (15, svVal sd n), (8, ptr X31.s), (9, i64 n)]) ([svSeg sv 50 (versV A n), svSeg sd 9 (datsV A n), stG X31 D110 n] ++ R) := by
                rintro i ⟨hI3, hX3⟩
                refine hK23 _ _ ?_
                have hi3 := hI3
                refine cseq ?_; intro K25 hK25
                refine creg ?_
                refine y (ev_assign rfl) rfl ?_
                refine ynil' (kthn (hK25 _ _ ?_))
                clear hK25
                refine cret ?_
                first
                  | (exfalso; omega; done)
                  | (refine kretv Try.results4 rfl (L1 := R) (by repeat first | exact .refl | exact .nil | exact .z | apply Pk.s | refine Ge.e ?_ | apply Ge.pick | apply Ge.drop) ?_
                     exact ⟨_, ⟨by rfl, rfl⟩, by rfl⟩)
              clear hK23
              refine cblock ?_
              refine cloop (A := Nat) (fun x => [(24, i64 x), (14, svVal sv n), (15, svVal sd n), (8, ptr X31.s), (9, i64 n)]) (fun x => [svSeg sv 50 (versV A n), svSeg sd 9 (datsV A n), stG X31 D110 n] ++ R) (fun x => x ≤ n) (fun x => n - x) (0) ?_ (by repeat first | exact sub_nil | refine sub_cons rfl ?_ | refine sub_cons' rfl (by simp) ?_) (by repeat first | exact .refl | exact .nil | exact .z | apply Pk.s | refine Ge.e ?_ | apply Ge.pick | apply Ge.drop) ?_
              · exact Nat.zero_le _
              rintro i hI3 KL3 hL3
              have hI3o := hI3
              have hi3 := hI3
              refine cseq ?_; intro K26 hK26
              refine cseq ?_; intro K27 hK27
              refine creg ?_
              refine y (ev_move rfl) rfl ?_
              refine y (ev_move rfl) rfl ?_
              refine y (ev_lss rfl rfl) rfl ?_
              refine ynil' (kthn (hK27 _ _ ?_))
              clear hK27
              refine ccond rfl (fun h88 => ?_) (fun h88 => ?_)
              · (try simp only [decide_eq_true_eq, beq_iff_eq, beq_eq_false_iff_ne, decide_eq_decide, decide_eq_false_iff_not, Bool.not_eq_true', Bool.not_eq_false', Bool.not_eq_true, Bool.not_eq_false, Bool.not_not, ne_eq, Option.isNone_some, Option.isSome_some, Option.isNone_none, Option.isSome_none] at h88)
                refine cskip' (kthn (hK26 _ _ ?_))
                clear hK26
                refine cseq ?_; intro K28 hK28
                refine cblock ?_
                refine cseq ?_; intro K29 hK29
                refine creg ?_
                refine y (ev_move rfl) rfl ?_
                refine y (ev_move rfl) rfl ?_
                refine ycall (gGet ?gw91) rfl Try.call25 (by repeat first | exact .nil | exact .z | apply Pk.s | apply Tk.cons) rfl ?_
                case gw91 => exact hG110.wf
                rintro v L' ⟨rfl, rfl⟩
                rw [hA110]
                refine y (ev_move rfl) rfl ?_
                refine y (ev_extract rfl rfl) rfl ?_
                refine y (ev_extract rfl rfl) rfl ?_
                refine ya (ac_alloc Try.zeroValue50 rfl) rfl ?_
                rintro v L' ⟨b25, rfl, rfl⟩
                refine ya0 (ac_storeAll rfl rfl (by first | exact bytesV_one _ | (simp [Value.oneCell']; done) | (simp only [List.forall_mem_cons, List.not_mem_nil, false_implies, implies_true, svVal_one, and_true, true_and, and_self]; first | done | simp [Value.oneCell'])) Try.sizeOf50 (by repeat first | exact .z | apply Rp.s) (by first | rfl | assumption | (simp [*]; done) | (simp [*]; omega)) (by first | rfl | assumption | (simp [*]; done) | (simp [*]; omega))) ?_
                rintro v L' ⟨rfl, rfl⟩
                refine y (ev_assign rfl) rfl ?_
                refine ynil' (kthn (hK29 _ _ ?_))
                clear hK29
                refine cseq ?_; intro K30 hK30
                refine cdraw 13 [(0, true), (1, true), (2, true), (3, true), (4, true), (5, true), (6, true), (7, true), (8, true), (9, true), (10, true), (11, true), (12, true)] (_) Try.mixed (by kernel_rfl) .refl ?_
                refine hr rfl (ev_loadAll rfl Try.isAgg50 Try.sizeOf50 (by repeat first | exact .z | apply In.s) (by first | rfl | assumption | (simp [*]; done) | (simp [*]; omega))) rfl ?_
                refine hr rfl (ev_move rfl) rfl ?_
                refine hr rfl (ev_move rfl) rfl ?_
                refine hr rfl (ev_ixV (rdV_sv (L := [svSeg sv 50 (versV A n)]) .z okv) rfl rfl Try.underlying47 Try.sizeOf50 (by omega) (by omega)) rfl ?_
                refine hr rfl (ev_loadNV (us := [i64 (A.getB i).v0, i64 (A.getB i).v1]) (i * 2) (rdV_sv (L := [svSeg sv 50 (versV A n)]) .z okv) (by repeat first | exact .refl | exact .nil | exact .z | apply Pk.s | refine Ge.e ?_ | apply Ge.pick | apply Ge.drop) rfl Try.isAgg50 Try.sizeOf50 (by simp) (versV_at (by omega)) rfl) rfl ?_
                refine hr rfl (ev_neqF rfl rfl (by kernel_rfl) (by simp only [List.cons.injEq, Value.int.injEq, Value.string.injEq, Value.bool.injEq, str_inj, intsV_inj, MsgM.cells_inj, true_and, and_true]; exact Iff.rfl)) rfl ?_
                skip
                · skip
                  refine hr rfl (ev_move rfl) rfl ?_
                  refine hr1 rfl rfl rfl (ev_move rfl) rfl ?_
                  refine hr1 rfl rfl rfl (ev_move rfl) rfl ?_
                  refine hr1 rfl rfl rfl (ev_move rfl) rfl ?_
                  refine hr1 rfl rfl rfl (ev_ixV (rdV_sv (L := [svSeg sd 9 (datsV A n)]) .z okd) rfl rfl Try.underlying48 Try.sizeOf9 (by omega) (by omega)) rfl ?_
                  refine hr1 rfl rfl rfl (ev_loadV i (rdV_sv (L := [svSeg sd 9 (datsV A n)]) .z okd) (by repeat first | exact .refl | exact .nil | exact .z | apply Pk.s | refine Ge.e ?_ | apply Ge.pick | apply Ge.drop) rfl Try.isAgg9 (by simp) (datsV_at (by omega))) rfl ?_
                  first
                    | refine hr1 rfl rfl rfl (ev_neqL rfl rfl) rfl ?_
                    | refine hr1 rfl rfl rfl (ev_neqS rfl rfl) rfl ?_
                  rw [show (decide ((A.getB i).data ≠ (A.getB i).data)) = false by simp]
                  refine hnil ?_
                  refine y (ev_pick0 rfl rfl) rfl ?_
                  refine hnoP' (kthn (hK30 _ _ ?_))
                  clear hK30
                  refine ccond0 rfl ?_
                  refine cskip' (kbn (kthn (hK28 _ _ ?_)))
                  clear hK28
                  refine creg ?_
                  refine y (ev_move rfl) rfl ?_
                  refine y (ev_add rfl rfl) rfl ?_
                  rw [show IntKind.i64.wrap ((i:Int) + 1) = ((i+1 : Nat) : Int) by rw [wr (by omega) (by omega)]; rfl]
                  refine y (ev_assign rfl) rfl ?_
                  refine ynil' (kthn ?_)
                  exact hL3 (i + 1) (by omega) (by omega) _ _ (by repeat first | exact sub_nil | refine sub_cons rfl ?_ | refine sub_cons' rfl (by simp) ?_) (by repeat first | exact .refl | exact .nil | exact .z | apply Pk.s | refine Ge.e ?_ | apply Ge.pick | apply Ge.drop)
              · (try simp only [decide_eq_true_eq, beq_iff_eq, beq_eq_false_iff_ne, decide_eq_decide, decide_eq_false_iff_not, Bool.not_eq_true', Bool.not_eq_false', Bool.not_eq_true, Bool.not_eq_false, Bool.not_not, ne_eq, Option.isNone_some, Option.isSome_some, Option.isNone_none, Option.isSome_none] at h88)
                refine cexit (kthx (kthx (kbx (kthn ?_))))
                exact ksub (by repeat first | exact sub_nil | refine sub_cons rfl ?_ | refine sub_cons' rfl (by simp) ?_) (by repeat first | exact .refl | exact .nil | exact .z | apply Pk.s | refine Ge.e ?_ | apply Ge.pick | apply Ge.drop) (hJ3 i ⟨hI3o, by first | trivial | omega⟩)
          clear hK16
          refine cblock ?_
          refine cloop (A := Nat × Sv × Sv) (fun x => [(16, i64 x.1), (14, svVal x.2.1 x.1), (15, svVal x.2.2 x.1), (13, ptr b13), (12, i64 A.ep), (10, i64 kk), (8, ptr X31.s), (9, i64 n), (1, lv), (2, .int .u8 av)]) (fun x => [svSeg x.2.1 50 (versV A x.1), svSeg x.2.2 9 (datsV A x.1), sc b13 (intsV A.tab) 33, stG X31 D n] ++ R) (fun x => x.1 ≤ n ∧ svOk x.2.1 x.1 2 (versV A x.1) ∧ svOk x.2.2 x.1 1 (datsV A x.1)) (fun x => n - x.1) ((0, some (b73, 0, []), some (b74, 0, []))) ?_ (by repeat first | exact sub_nil | refine sub_cons rfl ?_ | refine sub_cons' rfl (by simp) ?_) (by repeat first | exact .refl | exact .nil | exact .z | apply Pk.s | refine Ge.e ?_ | apply Ge.pick | apply Ge.drop) ?_
          · exact ⟨Nat.zero_le _, ⟨Nat.le_refl _, by decide, rfl, rfl⟩, ⟨Nat.le_refl _, by decide, rfl, rfl⟩⟩
          rintro ⟨i, sv, sd⟩ hI2 KL2 hL2
          have hI2o := hI2
          obtain ⟨hi2, okv, okd⟩ := hI2; dsimp only at hi2 okv okd ⊢
          refine cseq ?_; intro K31 hK31
          refine cseq ?_; intro K32 hK32
          refine creg ?_
          refine y (ev_move rfl) rfl ?_
          refine y (ev_move rfl) rfl ?_
          refine y (ev_lss rfl rfl) rfl ?_
          refine ynil' (kthn (hK32 _ _ ?_))
          clear hK32
          refine ccond rfl (fun h118 => ?_) (fun h118 => ?_)
          · (try simp only [decide_eq_true_eq, beq_iff_eq, beq_eq_false_iff_ne, decide_eq_decide, decide_eq_false_iff_not, Bool.not_eq_true', Bool.not_eq_false', Bool.not_eq_true, Bool.not_eq_false, Bool.not_not, ne_eq, Option.isNone_some, Option.isSome_some, Option.isNone_none, Option.isSome_none] at h118)
            refine cskip' (kthn (hK31 _ _ ?_))
            clear hK31
            refine cseq ?_; intro K33 hK33
            refine cblock ?_
            refine cseq ?_; intro K34 hK34
            refine creg ?_
            refine y (ev_move rfl) rfl ?_
            refine y (ev_move rfl) rfl ?_
            refine ycall (gGet ?gw121) rfl Try.call25 (by repeat first | exact .nil | exact .z | apply Pk.s | apply Tk.cons) rfl ?_
            case gw121 => exact hG.wf
            rintro v L' ⟨rfl, rfl⟩
            rw [hA]
            refine y (ev_move rfl) rfl ?_
            refine y (ev_extract rfl rfl) rfl ?_
            refine y (ev_extract rfl rfl) rfl ?_
            refine ya (ac_alloc Try.zeroValue50 rfl) rfl ?_
            rintro v L' ⟨b17, rfl, rfl⟩
            refine ya0 (ac_storeAll rfl rfl (by first | exact bytesV_one _ | (simp [Value.oneCell']; done) | (simp only [List.forall_mem_cons, List.not_mem_nil, false_implies, implies_true, svVal_one, and_true, true_and, and_self]; first | done | simp [Value.oneCell'])) Try.sizeOf50 (by repeat first | exact .z | apply Rp.s) (by first | rfl | assumption | (simp [*]; done) | (simp [*]; omega)) (by first | rfl | assumption | (simp [*]; done) | (simp [*]; omega))) ?_
            rintro v L' ⟨rfl, rfl⟩
            refine y (ev_assign rfl) rfl ?_
            refine ynil' (kthn (hK34 _ _ ?_))
            clear hK34
            refine cseq ?_; intro K35 hK35
            refine creg ?_
            refine y (ev_move rfl) rfl ?_
            refine y (ev_loadAll rfl Try.isAgg50 Try.sizeOf50 (by repeat first | exact .z | apply In.s) (by first | rfl | assumption | (simp [*]; done) | (simp [*]; omega))) rfl ?_
            refine ya (ac_bsliceR rfl Try.underlying47 Try.sizeOf50 Try.zeroValue50 rfl rfl rfl rfl ⟨⟨_, _, rfl, (by first | rfl | simp), (by first | decide | simp)⟩, trivial⟩ (by dsimp [fillL, splice, vcells, reps] <;> rfl)) rfl ?_
            rintro v L' ⟨b88, rfl, rfl⟩
            refine ya (ac_append (s := sv) (xs := versV A i) (m := i) (k := 1) (us := [i64 (A.getB i).v0, i64 (A.getB i).v1]) (size := 2) rfl rfl (by repeat first | exact .z | apply Pk.s) Try.underlying47 Try.underlying47 (by intro q hq; cases hq) Try.typeInfo50 rfl rfl rfl ?ok131 ?src131 ?one131 ?big131) rfl ?_
            case ok131 => exact okv
            case src131 => exact src_at (by repeat first | exact .z | apply In.s) rfl rfl
            case one131 => intro u hu; simp at hu; rcases hu with rfl | rfl <;> rfl
            case big131 => show (_ + _) * 17 ≤ _; omega
            rintro v L' ⟨s89, rfl, ok89, rfl⟩
            rw [← versV_succ] at ok89 ⊢
            refine y (ev_assign rfl) rfl ?_
            refine ynil' (kthn (hK35 _ _ ?_))
            clear hK35
            refine creg ?_
            refine y (ev_move rfl) rfl ?_
            refine y (ev_move rfl) rfl ?_
            refine ya (ac_bsliceR rfl Try.underlying48 Try.sizeOf9 Try.zeroValue9 rfl rfl rfl rfl ⟨⟨_, _, rfl, (by first | rfl | simp), (by first | decide | simp)⟩, trivial⟩ (by dsimp [fillL, splice, vcells, reps] <;> rfl)) rfl ?_
            rintro v L' ⟨b92, rfl, rfl⟩
            refine ya (ac_append (s := sd) (xs := datsV A i) (m := i) (k := 1) (us := [str (A.getB i).data]) (size := 1) rfl rfl (by repeat first | exact .z | apply Pk.s) Try.underlying48 Try.underlying48 (by intro q hq; cases hq) Try.typeInfo9 rfl rfl rfl ?ok136 ?src136 ?one136 ?big136) rfl ?_
            case ok136 => exact okd
            case src136 => exact src_at (by repeat first | exact .z | apply In.s) rfl rfl
            case one136 => intro u hu; simp at hu; rcases hu with rfl; rfl
            case big136 => show (_ + _) * 17 ≤ _; omega
            rintro v L' ⟨s93, rfl, ok93, rfl⟩
            rw [← datsV_succ] at ok93 ⊢
            refine y (ev_assign rfl) rfl ?_
            refine ynil' (kbn (kthn (hK33 _ _ ?_)))
            clear hK33
            refine creg ?_
            refine y (ev_move rfl) rfl ?_
            refine y (ev_add rfl rfl) rfl ?_
            rw [show IntKind.i64.wrap ((i:Int) + 1) = ((i+1 : Nat) : Int) by rw [wr (by omega) (by omega)]; rfl]
            refine y (ev_assign rfl) rfl ?_
            refine ynil' (kthn ?_)
            exact hL2 ((i + 1, s89, s93)) (⟨by dsimp only; omega, ok89, ok93⟩) (by dsimp only; omega) _ _ (by repeat first | exact sub_nil | refine sub_cons rfl ?_ | refine sub_cons' rfl (by simp) ?_) (by repeat first | exact .refl | exact .nil | exact .z | apply Pk.s | refine Ge.e ?_ | apply Ge.pick | apply Ge.drop)
          · (try simp only [decide_eq_true_eq, beq_iff_eq, beq_eq_false_iff_ne, decide_eq_decide, decide_eq_false_iff_not, Bool.not_eq_true', Bool.not_eq_false', Bool.not_eq_true, Bool.not_eq_false, Bool.not_not, ne_eq, Option.isNone_some, Option.isSome_some, Option.isNone_none, Option.isSome_none] at h118)
            refine cexit (kthx (kthx (kbx (kthn ?_))))
            exact ksub (by repeat first | exact sub_nil | refine sub_cons rfl ?_ | refine sub_cons' rfl (by simp) ?_) (by repeat first | exact .refl | exact .nil | exact .z | apply Pk.s | refine Ge.e ?_ | apply Ge.pick | apply Ge.drop) (hJ2 ⟨i, sv, sd⟩ ⟨hI2o, by first | trivial | omega⟩)
      clear hK8
      refine cblock ?_
      refine cloop (A := Nat × Dev) (fun x => [(11, i64 x.1), (10, i64 kk), (8, ptr X31.s), (9, i64 n), (1, lv), (2, .int .u8 av)]) (fun x => [stG X31 x.2 n] ++ R) (fun x => SGood X31.ps x.2 n x.1 ∧ x.1 ≤ kk ∧ ∀ j m, j < x.1 → l[j]? = some m → (absS x.2 n).done m) (fun x => kk - x.1) ((0, D0)) ?_ (by repeat first | exact sub_nil | refine sub_cons rfl ?_ | refine sub_cons' rfl (by simp) ?_) (by repeat first | exact .refl | exact .nil | exact .z | apply Pk.s | refine Ge.e ?_ | apply Ge.pick | apply Ge.drop) ?_
      · exact ⟨hX31, Nat.zero_le _, fun j m h => absurd h (Nat.not_lt_zero _)⟩
      rintro ⟨i, D⟩ hI1 KL1 hL1
      have hI1o := hI1
      obtain ⟨hG, hi, hdone⟩ := hI1; dsimp only at hG hi hdone ⊢
      refine cseq ?_; intro K36 hK36
      refine cseq ?_; intro K37 hK37
      refine creg ?_
      refine y (ev_move rfl) rfl ?_
      refine y (ev_move rfl) rfl ?_
      refine y (ev_lss rfl rfl) rfl ?_
      refine ynil' (kthn (hK37 _ _ ?_))
      clear hK37
      refine ccond rfl (fun h144 => ?_) (fun h144 => ?_)
      · (try simp only [decide_eq_true_eq, beq_iff_eq, beq_eq_false_iff_ne, decide_eq_decide, decide_eq_false_iff_not, Bool.not_eq_true', Bool.not_eq_false', Bool.not_eq_true, Bool.not_eq_false, Bool.not_not, ne_eq, Option.isNone_some, Option.isSome_some, Option.isNone_none, Option.isSome_none] at h144)
        refine cskip' (kthn (hK36 _ _ ?_))
        clear hK36
        refine cseq ?_; intro K38 hK38
        refine cblock ?_
        refine cseq ?_; intro K39 hK39
        refine cseq ?_; intro K40 hK40
        refine creg ?_
        obtain ⟨m, hm⟩ : ∃ m, l[i]? = some m := ⟨_, List.getElem?_eq_getElem (by omega)⟩
        refine y (ev_move rfl) rfl ?_
        refine y (ev_move rfl) rfl ?_
        refine y (ev_ixV hv rfl rfl Try.underlying41 Try.sizeOf35 (by omega) (by omega)) rfl ?_
        refine y (ev_fieldAddr 11 rfl Try.underlying35 rfl Try.sizeOf9) rfl ?_
        refine y (ev_loadV (i * 13 + 11) hv (by repeat first | exact .refl | exact .nil | exact .z | apply Pk.s | refine Ge.e ?_ | apply Ge.pick | apply Ge.drop) rfl Try.isAgg9 (by simp; omega) (msgsV_at (r := 11) hm (by decide))) rfl ?_
        first
          | refine y (ev_lenStr rfl Try.underlying9) rfl ?_
          | refine y (ev_lenS rfl Try.underlying9) rfl ?_
        refine y (ev_gtr rfl rfl) rfl ?_
        refine y (ev_move rfl) rfl ?_
        refine ysplit 52 rfl (fun h153 => ?_) (fun h153 => ?_)
        · (try simp only [decide_eq_true_eq, beq_iff_eq, beq_eq_false_iff_ne, decide_eq_decide, decide_eq_false_iff_not, Bool.not_eq_true', Bool.not_eq_false', Bool.not_eq_true, Bool.not_eq_false, Bool.not_not, ne_eq, Option.isNone_some, Option.isSome_some, Option.isNone_none, Option.isSome_none] at h153)
          refine yg0 rfl rfl rfl rfl ?_
          refine yg0 rfl rfl rfl rfl ?_
          refine yg0 rfl rfl rfl rfl ?_
          refine yg0 rfl rfl rfl rfl ?_
          refine yg0 rfl rfl rfl rfl ?_
          refine yg0 rfl rfl rfl rfl ?_
          refine yg0 rfl rfl rfl rfl ?_
          refine y (ev_pick1 rfl rfl) rfl ?_
          refine ynil' (kthn (hK40 _ _ ?_))
          clear hK40
          refine ccond1 rfl ?_
          refine cseq ?_; intro K41 hK41
          refine creg ?_
          refine y (ev_assign rfl) rfl ?_
          refine ynil' (kthn (hK41 _ _ ?_))
          clear hK41
          refine cret (kthr (kbr (kthr (kthr (kbr (kthr ?_))))))
          first
            | (exfalso; omega; done)
            | (refine kretv Try.results4 rfl (L1 := R) (by repeat first | exact .refl | exact .nil | exact .z | apply Pk.s | refine Ge.e ?_ | apply Ge.pick | apply Ge.drop) ?_
               exact ⟨_, ⟨by rfl, rfl⟩, by rfl⟩)
        · (try simp only [decide_eq_true_eq, beq_iff_eq, beq_eq_false_iff_ne, decide_eq_decide, decide_eq_false_iff_not, Bool.not_eq_true', Bool.not_eq_false', Bool.not_eq_true, Bool.not_eq_false, Bool.not_not, ne_eq, Option.isNone_some, Option.isSome_some, Option.isNone_none, Option.isSome_none] at h153)
          refine yg1 rfl rfl ?_
          refine y (ev_move rfl) rfl ?_
          refine yg1 rfl rfl ?_
          refine y (ev_move rfl) rfl ?_
          refine yg1 rfl rfl ?_
          refine y (ev_ixV hv rfl rfl Try.underlying41 Try.sizeOf35 (by omega) (by omega)) rfl ?_
          refine yg1 rfl rfl ?_
          refine y (ev_fieldAddr 12 rfl Try.underlying35 rfl Try.sizeOf9) rfl ?_
          refine yg1 rfl rfl ?_
          refine y (ev_loadV (i * 13 + 12) hv (by repeat first | exact .refl | exact .nil | exact .z | apply Pk.s | refine Ge.e ?_ | apply Ge.pick | apply Ge.drop) rfl Try.isAgg9 (by simp; omega) (msgsV_at (r := 12) hm (by decide))) rfl ?_
          refine yg1 rfl rfl ?_
          first
            | refine y (ev_lenStr rfl Try.underlying9) rfl ?_
            | refine y (ev_lenS rfl Try.underlying9) rfl ?_
          refine yg1 rfl rfl ?_
          refine y (ev_gtr rfl rfl) rfl ?_
          refine y (ev_pick0 rfl rfl) rfl ?_
          refine ynil' (kthn (hK40 _ _ ?_))
          clear hK40
          refine ccond rfl (fun h164 => ?_) (fun h164 => ?_)
          · (try simp only [decide_eq_true_eq, beq_iff_eq, beq_eq_false_iff_ne, decide_eq_decide, decide_eq_false_iff_not, Bool.not_eq_true', Bool.not_eq_false', Bool.not_eq_true, Bool.not_eq_false, Bool.not_not, ne_eq, Option.isNone_some, Option.isSome_some, Option.isNone_none, Option.isSome_none] at h164)
            refine cseq ?_; intro K42 hK42
            refine creg ?_
            refine y (ev_assign rfl) rfl ?_
            refine ynil' (kthn (hK42 _ _ ?_))
            clear hK42
            refine cret (kthr (kbr (kthr (kthr (kbr (kthr ?_))))))
            first
              | (exfalso; omega; done)
              | (refine kretv Try.results4 rfl (L1 := R) (by repeat first | exact .refl | exact .nil | exact .z | apply Pk.s | refine Ge.e ?_ | apply Ge.pick | apply Ge.drop) ?_
                 exact ⟨_, ⟨by rfl, rfl⟩, by rfl⟩)
          · (try simp only [decide_eq_true_eq, beq_iff_eq, beq_eq_false_iff_ne, decide_eq_decide, decide_eq_false_iff_not, Bool.not_eq_true', Bool.not_eq_false', Bool.not_eq_true, Bool.not_eq_false, Bool.not_not, ne_eq, Option.isNone_some, Option.isSome_some, Option.isNone_none, Option.isSome_none] at h164)
            refine cskip' (kthn (hK39 _ _ ?_))
            clear hK39
            refine creg ?_
            refine y (ev_move rfl) rfl ?_
            refine y (ev_move rfl) rfl ?_
            refine y (ev_move rfl) rfl ?_
            refine y (ev_ixV hv rfl rfl Try.underlying41 Try.sizeOf35 (by omega) (by omega)) rfl ?_
            refine y (ev_loadNV (us := m.cells) (i * 13) hv (by repeat first | exact .refl | exact .nil | exact .z | apply Pk.s | refine Ge.e ?_ | apply Ge.pick | apply Ge.drop) rfl Try.isAgg35 Try.sizeOf35 (by simp) (msgsV_get hm) rfl) rfl ?_
            refine ycall (gTake (k := i) ?gd171 ?gk171) rfl Try.call22 (by repeat first | exact .nil | exact .z | apply Pk.s | apply Tk.cons) rfl ?_
            case gd171 => exact hG
            case gk171 => omega
            rintro v L' ⟨D66, rfl, hG66, hA66, rfl⟩
            refine ynil' (kbn (kthn (hK38 _ _ ?_)))
            clear hK38
            refine creg ?_
            refine y (ev_move rfl) rfl ?_
            refine y (ev_add rfl rfl) rfl ?_
            rw [show IntKind.i64.wrap ((i:Int) + 1) = ((i+1 : Nat) : Int) by rw [wr (by omega) (by omega)]; rfl]
            refine y (ev_assign rfl) rfl ?_
            refine ynil' (kthn ?_)
            exact hL1 ((i + 1, D66)) (⟨hG66, by dsimp only; omega, fun j m' hj hm' => by
              rw [show absS D66 n = _ from hA66]
              by_cases e : j = i
              · subst e; rw [hm] at hm'; cases hm'; exact take_done _ _
              · exact done_mono (hdone j m' (by have : j < i + 1 := hj; omega) hm') (take_le _ _)⟩) (by dsimp only; omega) _ _ (by repeat first | exact sub_nil | refine sub_cons rfl ?_ | refine sub_cons' rfl (by simp) ?_) (by repeat first | exact .refl | exact .nil | exact .z | apply Pk.s | refine Ge.e ?_ | apply Ge.pick | apply Ge.drop)
      · (try simp only [decide_eq_true_eq, beq_iff_eq, beq_eq_false_iff_ne, decide_eq_decide, decide_eq_false_iff_not, Bool.not_eq_true', Bool.not_eq_false', Bool.not_eq_true, Bool.not_eq_false, Bool.not_not, ne_eq, Option.isNone_some, Option.isSome_some, Option.isNone_none, Option.isSome_none] at h144)
        refine cexit (kthx (kthx (kbx (kthn ?_))))
        exact ksub (by repeat first | exact sub_nil | refine sub_cons rfl ?_ | refine sub_cons' rfl (by simp) ?_) (by repeat first | exact .refl | exact .nil | exact .z | apply Pk.s | refine Ge.e ?_ | apply Ge.pick | apply Ge.drop) (hJ1 ⟨i, D⟩ ⟨hI1o, by first | trivial | omega⟩)
end W
end Go.Proofs
