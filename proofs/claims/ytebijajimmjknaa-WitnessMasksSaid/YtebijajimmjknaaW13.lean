/- A part of the proof: contracts and plain lemmas, each without conditions beyond those that it names. -/
import Derived.Test.YtebijajimmjknaaW10
import Derived.Test.YtebijajimmjknaaGH
set_option linter.unusedVariables false
set_option linter.unusedSimpArgs false
set_option linter.constructorNameAsVariable false
namespace Go.Proofs
open Go Go.Sl
namespace W
set_option linter.unusedVariables false
theorem refIn [Env] {R : List Seg} {mask node : Int} : Con Try.prog 31 [i64 mask, i64 node] [] R (Is (.bool (refInB mask node)) []) := by
  refine con_enter Try.func31 Try.ntmps31 rfl rfl ?_
  refine cseq ?_; intro K1 hK1
  refine creg ?_
  refine y (ev_assign rfl) rfl ?_
  refine ynil' (kthn (hK1 _ _ ?_))
  clear hK1
  refine cseq ?_; intro K2 hK2
  refine cseq ?_; intro K3 hK3
  refine creg ?_
  refine y (ev_move rfl) rfl ?_
  refine y (ev_eql rfl rfl) rfl ?_
  refine ynil' (kthn (hK3 _ _ ?_))
  clear hK3
  refine ccond rfl (fun h4 => ?_) (fun h4 => ?_)
  · (try simp only [decide_eq_true_eq, beq_iff_eq, beq_eq_false_iff_ne, decide_eq_decide, decide_eq_false_iff_not, Bool.not_eq_true', Bool.not_eq_false', Bool.not_eq_true, Bool.not_eq_false, Bool.not_not, ne_eq, Option.isNone_some, Option.isSome_some, Option.isNone_none, Option.isSome_none] at h4)
    refine cseq ?_; intro K4 hK4
    refine creg ?_
    refine y (ev_move rfl) rfl ?_
    refine y (ev_rem rfl rfl (by decide)) rfl ?_
    refine y (ev_eql rfl rfl) rfl ?_
    refine y (ev_assign rfl) rfl ?_
    refine ynil' (kthn (hK4 _ _ ?_))
    clear hK4
    refine cret (kthr ?_)
    first
      | (exfalso; omega; done)
      | (refine kretv Try.results31 rfl (L1 := R) (by repeat first | exact .refl | exact .nil | exact .z | apply Pk.s | refine Ge.e ?_ | apply Ge.pick | apply Ge.drop) ?_
         exact ⟨_, ⟨by first | rfl | (unfold refInB; simp_all; done), rfl⟩, by first | rfl | (unfold refInB; simp_all; done)⟩)
  · (try simp only [decide_eq_true_eq, beq_iff_eq, beq_eq_false_iff_ne, decide_eq_decide, decide_eq_false_iff_not, Bool.not_eq_true', Bool.not_eq_false', Bool.not_eq_true, Bool.not_eq_false, Bool.not_not, ne_eq, Option.isNone_some, Option.isSome_some, Option.isNone_none, Option.isSome_none] at h4)
    refine cskip' (kthn (hK2 _ _ ?_))
    clear hK2
    refine cseq ?_; intro K5 hK5
    refine creg ?_
    refine y (ev_move rfl) rfl ?_
    refine y (ev_eql rfl rfl) rfl ?_
    refine y (ev_move rfl) rfl ?_
    refine ysplit 12 rfl (fun h12 => ?_) (fun h12 => ?_)
    · (try simp only [decide_eq_true_eq, beq_iff_eq, beq_eq_false_iff_ne, decide_eq_decide, decide_eq_false_iff_not, Bool.not_eq_true', Bool.not_eq_false', Bool.not_eq_true, Bool.not_eq_false, Bool.not_not, ne_eq, Option.isNone_some, Option.isSome_some, Option.isNone_none, Option.isSome_none] at h12)
      refine yg1 rfl rfl ?_
      refine y (ev_move rfl) rfl ?_
      refine yg1 rfl rfl ?_
      refine y (ev_quo rfl rfl (by decide)) rfl ?_
      refine yg1 rfl rfl ?_
      refine y (ev_eql rfl rfl) rfl ?_
      refine y (ev_pick1 rfl rfl) rfl ?_
      refine y (ev_assign rfl) rfl ?_
      refine ynil' (kthn (hK5 _ _ ?_))
      clear hK5
      refine cret ?_
      first
        | (exfalso; omega; done)
        | (refine kretv Try.results31 rfl (L1 := R) (by repeat first | exact .refl | exact .nil | exact .z | apply Pk.s | refine Ge.e ?_ | apply Ge.pick | apply Ge.drop) ?_
           exact ⟨_, ⟨by first | rfl | (unfold refInB; simp_all; done), rfl⟩, by first | rfl | (unfold refInB; simp_all; done)⟩)
    · (try simp only [decide_eq_true_eq, beq_iff_eq, beq_eq_false_iff_ne, decide_eq_decide, decide_eq_false_iff_not, Bool.not_eq_true', Bool.not_eq_false', Bool.not_eq_true, Bool.not_eq_false, Bool.not_not, ne_eq, Option.isNone_some, Option.isSome_some, Option.isNone_none, Option.isSome_none] at h12)
      refine yg0 rfl rfl rfl rfl ?_
      refine yg0 rfl rfl rfl rfl ?_
      refine yg0 rfl rfl rfl rfl ?_
      refine y (ev_pick0 rfl rfl) rfl ?_
      refine y (ev_assign rfl) rfl ?_
      refine ynil' (kthn (hK5 _ _ ?_))
      clear hK5
      refine cret ?_
      first
        | (exfalso; omega; done)
        | (refine kretv Try.results31 rfl (L1 := R) (by repeat first | exact .refl | exact .nil | exact .z | apply Pk.s | refine Ge.e ?_ | apply Ge.pick | apply Ge.drop) ?_
           exact ⟨_, ⟨by first | rfl | (unfold refInB; simp_all; done), rfl⟩, by first | rfl | (unfold refInB; simp_all; done)⟩)
theorem lawMasks [Env] {R : List Seg} {wt : Int} {av : Value} {acts : List ActW} (h0 : 0 ≤ wt ∧ wt ≤ 255) (hl : RdV R av acts.length (actwsV acts)) (haa : ∀ a ∈ acts, a.ok R) :
    Con Try.prog 9 [.int .u8 wt, av] [] R (Is (.bool true) []) := by
  have hG0 := good_new (wait := wt % 20 + 1) (by omega)
  obtain ⟨hf0, hl0, hw0⟩ := witO_new (wt % 20 + 1)
  have hi0 : OwnInv (fun _ => none) (witO (Dev.new 2) 0 1 (wt % 20 + 1)).f := by rw [hf0]; exact ownInv_first
  refine con_enter Try.func9 Try.ntmps9 rfl rfl ?_
  refine cseq ?_; intro K1 hK1
  refine creg ?_
  refine y (ev_assign rfl) rfl ?_
  refine ynil' (kthn (hK1 _ _ ?_))
  clear hK1
  refine cseq ?_; intro K2 hK2
  refine cseq ?_; intro K3 hK3
  refine creg ?_
  refine ycall (awake14) rfl Try.call13 (by repeat first | exact .nil | exact .z | apply Pk.s | apply Tk.cons) rfl ?_
  rintro v L' ⟨rfl, rfl⟩
  skip
  · skip
    refine y (ev_not rfl) rfl ?_
    refine ynil' (kthn (hK3 _ _ ?_))
    clear hK3
    refine ccond0 rfl ?_
    refine cskip' (kthn (hK2 _ _ ?_))
    clear hK2
    refine cseq ?_; intro K4 hK4
    refine creg ?_
    refine y (ev_move rfl) rfl ?_
    refine ycall (wBegin ?wt24) rfl Try.call14 (by repeat first | exact .nil | exact .z | apply Pk.s | apply Tk.cons) rfl ?_
    case wt24 => exact h0
    rintro v L' ⟨l20, q20, s20, c20, mb20, rfl, rfl⟩
    generalize witO (Dev.new 2) 0 1 (wt % 20 + 1) = W0 at *
    have hS0 : LsM.ok ⟨W0, Dev.new 2, [], 0, fun _ => none, s20, c20⟩ (wt % 20 + 1) 0 := ⟨hG0, hi0, own_nil, hw0⟩
    refine y (ev_assign rfl) rfl ?_
    refine ynil' (kthn (hK4 _ _ ?_))
    clear hK4
    refine cseq ?_; intro K5 hK5
    refine creg ?_
    refine y (ev_buildA (vs := [i64 (-1), i64 (-1)]) (zs := _) rfl Try.underlying67 Try.zeroValue67 rfl Try.sizeOf2 ⟨⟨_, _, rfl, (by first | rfl | simp), (by first | decide | simp)⟩, ⟨⟨_, _, rfl, (by first | rfl | simp), (by first | decide | simp)⟩, trivial⟩⟩ (by dsimp [fillL, splice, vcells] <;> rfl)) rfl ?_
    refine ya (ac_alloc Try.zeroValue67 rfl) rfl ?_
    rintro v L' ⟨b6, rfl, rfl⟩
    refine ya0 (ac_storeAll rfl rfl (by first | exact bytesV_one _ | (simp [Value.oneCell']; done) | (simp only [List.forall_mem_cons, List.not_mem_nil, false_implies, implies_true, svVal_one, and_true, true_and, and_self]; first | done | simp [Value.oneCell'])) Try.sizeOf67 (by repeat first | exact .z | apply Rp.s) (by first | rfl | assumption | (simp [*]; done) | (simp [*]; omega)) (by first | rfl | assumption | (simp [*]; done) | (simp [*]; omega))) ?_
    rintro v L' ⟨rfl, rfl⟩
    refine ynil' (kthn (hK5 _ _ ?_))
    clear hK5
    refine cseq ?_; intro K6 hK6
    refine cseq ?_; intro K7 hK7
    refine creg ?_
    have e0 : W0.f.l0 = -1 := by rw [hf0]; rfl
    have e1 : W0.f.l1 = -1 := by rw [hf0]; rfl
    rw [show ([i64 (-1), i64 (-1)] : List Value) = [i64 W0.f.l0, i64 W0.f.l1] by rw [e0, e1]]
    refine y (ev_assign rfl) rfl ?_
    refine ynil' (kthn (hK7 _ _ ?_))
    clear hK7
    have hJ1 : ∀ x : Nat × LsM, ((x.2.ok (wt % 20 + 1) x.1 ∧ x.1 ≤ acts.length ∧ x.1 ≤ 100) ∧ (True)) → Sk 210 K6 ([(7, i64 x.1), (6, ptr b6), (5, ptr l20), (1, av)]) ([sc b6 [i64 x.2.W.f.l0, i64 x.2.W.f.l1] 67, lifeP l20 q20 (ptr x.2.s) (wt % 20 + 1) mb20 false, ownM mb20 x.2.kv x.2.n, witP x.2.s x.2.c x.2.W, celP x.2.c q20 x.2.W.c, dev q20 x.2.D] ++ R) := by
      rintro ⟨k, S⟩ ⟨hI1, hX1⟩
      refine hK6 _ _ ?_
      obtain ⟨hS, hk1, hk2⟩ := hI1; dsimp only at hS hk1 hk2 ⊢
      refine cseq ?_; intro K8 hK8
      refine creg ?_
      refine y (ev_assign rfl) rfl ?_
      refine ynil' (kthn (hK8 _ _ ?_))
      clear hK8
      refine cret ?_
      first
        | (exfalso; omega; done)
        | (refine kretv Try.results9 rfl (L1 := R) (by repeat first | exact .refl | exact .nil | exact .z | apply Pk.s | refine Ge.e ?_ | apply Ge.pick | apply Ge.drop) ?_
           exact ⟨_, ⟨by rfl, rfl⟩, by rfl⟩)
    clear hK6
    refine cblock ?_
    refine cloop (A := Nat × LsM) (fun x => [(7, i64 x.1), (6, ptr b6), (5, ptr l20), (1, av)]) (fun x => [sc b6 [i64 x.2.W.f.l0, i64 x.2.W.f.l1] 67, lifeP l20 q20 (ptr x.2.s) (wt % 20 + 1) mb20 false, ownM mb20 x.2.kv x.2.n, witP x.2.s x.2.c x.2.W, celP x.2.c q20 x.2.W.c, dev q20 x.2.D] ++ R) (fun x => x.2.ok (wt % 20 + 1) x.1 ∧ x.1 ≤ acts.length ∧ x.1 ≤ 100) (fun x => acts.length - x.1) ((0, ⟨W0, Dev.new 2, [], 0, fun _ => none, s20, c20⟩)) ?_ (by repeat first | exact sub_nil | refine sub_cons rfl ?_ | refine sub_cons' rfl (by simp) ?_) (by repeat first | exact .refl | exact .nil | exact .z | apply Pk.s | refine Ge.e ?_ | apply Ge.pick | apply Ge.drop) ?_
    · exact ⟨hS0, Nat.zero_le _, Nat.zero_le _⟩
    rintro ⟨k, S⟩ hI1 KL1 hL1
    have hI1o := hI1
    obtain ⟨hS, hk1, hk2⟩ := hI1; dsimp only at hS hk1 hk2 ⊢
    refine cseq ?_; intro K9 hK9
    refine cseq ?_; intro K10 hK10
    refine creg ?_
    refine y (ev_move rfl) rfl ?_
    refine y (ev_move rfl) rfl ?_
    first
      | refine y (ev_len rfl Try.underlying60) rfl ?_
      | refine y (ev_lenSv rfl Try.underlying60 (by assumption)) rfl ?_
      | refine y (ev_lenV rfl Try.underlying60 (RdV.lenVal (by assumption))) rfl ?_
      | refine y (ev_lenV rfl Try.underlying60 (RdB.lenVal (by assumption))) rfl ?_
    refine y (ev_lss rfl rfl) rfl ?_
    refine y (ev_move rfl) rfl ?_
    refine ysplit 26 rfl (fun h36 => ?_) (fun h36 => ?_)
    · (try simp only [decide_eq_true_eq, beq_iff_eq, beq_eq_false_iff_ne, decide_eq_decide, decide_eq_false_iff_not, Bool.not_eq_true', Bool.not_eq_false', Bool.not_eq_true, Bool.not_eq_false, Bool.not_not, ne_eq, Option.isNone_some, Option.isSome_some, Option.isNone_none, Option.isSome_none] at h36)
      refine yg1 rfl rfl ?_
      refine y (ev_move rfl) rfl ?_
      refine yg1 rfl rfl ?_
      refine y (ev_lss rfl rfl) rfl ?_
      refine y (ev_pick1 rfl rfl) rfl ?_
      refine ynil' (kthn (hK10 _ _ ?_))
      clear hK10
      refine ccond rfl (fun h40 => ?_) (fun h40 => ?_)
      · (try simp only [decide_eq_true_eq, beq_iff_eq, beq_eq_false_iff_ne, decide_eq_decide, decide_eq_false_iff_not, Bool.not_eq_true', Bool.not_eq_false', Bool.not_eq_true, Bool.not_eq_false, Bool.not_not, ne_eq, Option.isNone_some, Option.isSome_some, Option.isNone_none, Option.isSome_none] at h40)
        refine cskip' (kthn (hK9 _ _ ?_))
        clear hK9
        refine cseq ?_; intro K11 hK11
        refine cblock ?_
        refine cseq ?_; intro K12 hK12
        refine creg ?_
        obtain ⟨a, hka⟩ : ∃ a, acts[k]? = some a := ⟨_, List.getElem?_eq_getElem (by omega)⟩
        have hact := haa a (List.mem_of_getElem? hka)
        refine y (ev_move rfl) rfl ?_
        refine y (ev_move rfl) rfl ?_
        refine y (ev_ixV hl rfl rfl Try.underlying60 Try.sizeOf64 (by omega) (by omega)) rfl ?_
        refine y (ev_loadNV (us := a.cells) (k * 18) hl (by repeat first | exact .refl | exact .nil | exact .z | apply Pk.s | refine Ge.e ?_ | apply Ge.pick | apply Ge.drop) rfl Try.isAgg64 Try.sizeOf64 (by simp) (actwsV_get hka) rfl) rfl ?_
        refine ya (ac_alloc Try.zeroValue64 rfl) rfl ?_
        rintro v L' ⟨b8, rfl, rfl⟩
        refine ya0 (ac_storeN rfl rfl hact.one Try.sizeOf64 (by repeat first | exact .z | apply Rp.s) rfl (by simp [ActW.cells, MsgM.cells]) rfl) ?_
        rintro v L' ⟨rfl, rfl⟩
        refine ynil' (kthn (hK12 _ _ ?_))
        clear hK12
        refine cseq ?_; intro K13 hK13
        refine cseq ?_; intro K14 hK14
        refine creg ?_
        refine y (ev_move rfl) rfl ?_
        refine y (ev_nil rfl) rfl ?_
        refine y (ev_fieldAddr 1 rfl Try.underlying31 rfl Try.sizeOf28) rfl ?_
        refine y (ev_load rfl Try.isAgg28 (by repeat first | exact .z | apply In.s) rfl) rfl ?_
        skip
        · skip
          refine y (ev_eqlPnil rfl rfl Try.underlying28) rfl ?_
          refine y (ev_move rfl) rfl ?_
          refine yg1 rfl rfl ?_
          refine y (ev_loadN (u := a.cells) rfl Try.isAgg64 Try.sizeOf64 (by repeat first | exact .z | apply In.s) rfl rfl) rfl ?_
          refine yg1 rfl rfl ?_
          refine ycall (lLarge (x := a) ?lx54) rfl Try.call29 (by repeat first | exact .nil | exact .z | apply Pk.s | apply Tk.cons) rfl ?_
          case lx54 => exact hact.mono (by repeat first | exact .refl | exact .nil | exact .z | apply Pk.s | refine Ge.e ?_ | apply Ge.pick | apply Ge.drop)
          rintro v L' ⟨big43, rfl, hbig43, rfl⟩
          refine y (ev_pick0 rfl rfl) rfl ?_
          refine ynil' (kthn (hK14 _ _ ?_))
          clear hK14
          refine ccond rfl (fun h56 => ?_) (fun h56 => ?_)
          · (try simp only [decide_eq_true_eq, beq_iff_eq, beq_eq_false_iff_ne, decide_eq_decide, decide_eq_false_iff_not, Bool.not_eq_true', Bool.not_eq_false', Bool.not_eq_true, Bool.not_eq_false, Bool.not_not, ne_eq, Option.isNone_some, Option.isSome_some, Option.isNone_none, Option.isSome_none] at h56)
            refine cseq ?_; intro K15 hK15
            refine creg ?_
            refine y (ev_move rfl) rfl ?_
            refine y (ev_nil rfl) rfl ?_
            refine y (ev_fieldAddr 1 rfl Try.underlying31 rfl Try.sizeOf28) rfl ?_
            refine y (ev_load rfl Try.isAgg28 (by repeat first | exact .z | apply In.s) rfl) rfl ?_
            refine y (ev_neqPnil rfl rfl Try.underlying28) rfl ?_
            refine y (ev_assign rfl) rfl ?_
            refine ynil' (kthn (hK15 _ _ ?_))
            clear hK15
            refine cret (kthr (kbr (kthr (kthr (kbr (kthr ?_))))))
            first
              | (exfalso; omega; done)
              | (refine kretv Try.results9 rfl (L1 := R) (by repeat first | exact .refl | exact .nil | exact .z | apply Pk.s | refine Ge.e ?_ | apply Ge.pick | apply Ge.drop) ?_
                 exact ⟨_, ⟨by rfl, rfl⟩, by rfl⟩)
          · (try simp only [decide_eq_true_eq, beq_iff_eq, beq_eq_false_iff_ne, decide_eq_decide, decide_eq_false_iff_not, Bool.not_eq_true', Bool.not_eq_false', Bool.not_eq_true, Bool.not_eq_false, Bool.not_not, ne_eq, Option.isNone_some, Option.isSome_some, Option.isNone_none, Option.isSome_none] at h56)
            have hks := hbig43 h56
            refine cskip' (kthn (hK13 _ _ ?_))
            clear hK13
            refine cseq ?_; intro K16 hK16
            refine cseq ?_; intro K17 hK17
            refine creg ?_
            refine y (ev_fieldAddr 0 rfl Try.underlying64 rfl Try.sizeOf3) rfl ?_
            refine y (ev_load rfl Try.isAgg3 (by repeat first | exact .z | apply In.s) rfl) rfl ?_
            refine y (ev_gtr rfl rfl) rfl ?_
            refine ynil' (kthn (hK17 _ _ ?_))
            clear hK17
            refine ccond rfl (fun h66 => ?_) (fun h66 => ?_)
            · (try simp only [decide_eq_true_eq, beq_iff_eq, beq_eq_false_iff_ne, decide_eq_decide, decide_eq_false_iff_not, Bool.not_eq_true', Bool.not_eq_false', Bool.not_eq_true, Bool.not_eq_false, Bool.not_not, ne_eq, Option.isNone_some, Option.isSome_some, Option.isNone_none, Option.isSome_none] at h66)
              refine cexit (kthx (kbx (kthn (hK11 _ _ ?_))))
              clear hK11
              refine creg ?_
              refine y (ev_move rfl) rfl ?_
              refine y (ev_add rfl rfl) rfl ?_
              rw [show IntKind.i64.wrap ((k:Int) + 1) = ((k+1 : Nat) : Int) by rw [wr (by omega) (by omega)]; rfl]
              refine y (ev_assign rfl) rfl ?_
              refine ynil' (kthn ?_)
              first
                | exact hL1 (k + 1, S71) ⟨hS71, by dsimp only; omega, by dsimp only; omega⟩ (by dsimp only; omega) _ _ (by repeat first | exact sub_nil | refine sub_cons rfl ?_ | refine sub_cons' rfl (by simp) ?_) (by repeat first | exact .refl | exact .nil | exact .z | apply Pk.s | refine Ge.e ?_ | apply Ge.pick | apply Ge.drop)
                | exact hL1 (k + 1, S) ⟨hS.up1, by dsimp only; omega, by dsimp only; omega⟩ (by dsimp only; omega) _ _ (by repeat first | exact sub_nil | refine sub_cons rfl ?_ | refine sub_cons' rfl (by simp) ?_) (by repeat first | exact .refl | exact .nil | exact .z | apply Pk.s | refine Ge.e ?_ | apply Ge.pick | apply Ge.drop)
            · (try simp only [decide_eq_true_eq, beq_iff_eq, beq_eq_false_iff_ne, decide_eq_decide, decide_eq_false_iff_not, Bool.not_eq_true', Bool.not_eq_false', Bool.not_eq_true, Bool.not_eq_false, Bool.not_not, ne_eq, Option.isNone_some, Option.isSome_some, Option.isNone_none, Option.isSome_none] at h66)
              refine cskip' (kthn (hK16 _ _ ?_))
              clear hK16
              refine cseq ?_; intro K18 hK18
              have hJr13 : ∀ x : Nat, (True) → Sk 210 K18 ([(11, i64 S.W.f.epoch), (10, i64 S.W.f.holder), (9, i64 S.W.f.mask), (8, ptr b8), (7, i64 k), (6, ptr b6), (5, ptr l20), (1, av)]) ([sc b8 a.cells 64, sc b6 [i64 S.W.f.l0, i64 S.W.f.l1] 67, lifeP l20 q20 (ptr S.s) (wt % 20 + 1) mb20 false, ownM mb20 S.kv S.n, witP S.s S.c S.W, celP S.c q20 S.W.c, dev q20 S.D] ++ R) := by
                rintro x hIr13
                refine hK18 _ _ ?_
                refine cseq ?_; intro K19 hK19
                refine creg ?_
                refine y (ev_move rfl) rfl ?_
                refine y (ev_loadN (u := a.cells) rfl Try.isAgg64 Try.sizeOf64 (by repeat first | exact .z | apply In.s) rfl rfl) rfl ?_
                refine ycall (lDoGood (S := S) (k := k) (x := a) ?ls72 ?big72 ?ks72 ?ax72 ?one72) rfl Try.call30 (by repeat first | exact .nil | exact .z | apply Pk.s | apply Tk.cons) rfl ?_
                case ls72 => exact hS
                case big72 => omega
                case ks72 => exact hks
                case ax72 => exact hact.mono (by repeat first | exact .refl | exact .nil | exact .z | apply Pk.s | refine Ge.e ?_ | apply Ge.pick | apply Ge.drop)
                case one72 => omega
                rintro v L' ⟨w71, S71, rfl, hA71, hS71, hw71, rfl⟩
                have hMk := hA71.mask hS.good.fok
                rw [← hw71] at hMk
                refine y (ev_move rfl) rfl ?_
                refine y (ev_extract rfl rfl) rfl ?_
                refine y (ev_extract rfl rfl) rfl ?_
                refine ya (ac_alloc Try.zeroValue35 rfl) rfl ?_
                rintro v L' ⟨b12, rfl, rfl⟩
                refine ya0 (ac_storeN rfl rfl (msg_one _) Try.sizeOf35 (by repeat first | exact .z | apply Rp.s) rfl (by simp [MsgM.cells]) rfl) ?_
                rintro v L' ⟨rfl, rfl⟩
                refine y (ev_assign rfl) rfl ?_
                refine ynil' (kthn (hK19 _ _ ?_))
                clear hK19
                refine cseq ?_; intro K20 hK20
                refine creg ?_
                refine y (ev_move rfl) rfl ?_
                refine y (ev_nil rfl) rfl ?_
                refine y (ev_fieldAddr 1 rfl Try.underlying31 rfl Try.sizeOf28) rfl ?_
                refine y (ev_load rfl Try.isAgg28 (by repeat first | exact .z | apply In.s) rfl) rfl ?_
                refine ycall (wMask) rfl Try.call17 (by repeat first | exact .nil | exact .z | apply Pk.s | apply Tk.cons) rfl ?_
                rintro v L' ⟨rfl, rfl⟩
                refine y (ev_assign rfl) rfl ?_
                refine ynil' (kthn (hK20 _ _ ?_))
                clear hK20
                refine cseq ?_; intro K21 hK21
                refine cseq ?_; intro K22 hK22
                refine creg ?_
                refine y (ev_move rfl) rfl ?_
                skip
                · skip
                  refine y (ev_lss rfl rfl) rfl ?_
                  rw [show decide (S71.W.f.mask < 1) = false by have := hMk.rng; simp; omega]
                  refine y (ev_move rfl) rfl ?_
                  refine yg1 rfl rfl ?_
                  refine y (ev_move rfl) rfl ?_
                  refine yg1 rfl rfl ?_
                  refine y (ev_gtr rfl rfl) rfl ?_
                  rw [show decide (3 < S71.W.f.mask) = false by have := hMk.rng; simp; omega]
                  refine y (ev_pick0 rfl rfl) rfl ?_
                  refine y (ev_move rfl) rfl ?_
                  refine yg1 rfl rfl ?_
                  refine y (ev_move rfl) rfl ?_
                  refine yg1 rfl rfl ?_
                  refine y (ev_move rfl) rfl ?_
                  refine ysplit 87 rfl (fun h94 => ?_) (fun h94 => ?_)
                  · (try simp only [decide_eq_true_eq, beq_iff_eq, beq_eq_false_iff_ne, decide_eq_decide, decide_eq_false_iff_not, Bool.not_eq_true', Bool.not_eq_false', Bool.not_eq_true, Bool.not_eq_false, Bool.not_not, ne_eq, Option.isNone_some, Option.isSome_some, Option.isNone_none, Option.isSome_none] at h94)
                    refine yg1 rfl rfl ?_
                    refine y (ev_fieldAddr 2 rfl Try.underlying35 rfl Try.sizeOf2) rfl ?_
                    refine yg1 rfl rfl ?_
                    refine y (ev_load rfl Try.isAgg2 (by repeat first | exact .z | apply In.s) rfl) rfl ?_
                    refine yg1 rfl rfl ?_
                    refine y (ev_move rfl) rfl ?_
                    refine yg1 rfl rfl ?_
                    refine y (ev_neq rfl rfl) rfl ?_
                    rw [show (!decide (w71.1.1.seq = S71.W.f.mask)) = false by have := hMk.seq (by assumption); simp [this]]
                    refine yg1 rfl rfl ?_
                    refine y (ev_pick1 rfl rfl) rfl ?_
                    refine y (ev_pick0 rfl rfl) rfl ?_
                    refine ynil' (kthn (hK22 _ _ ?_))
                    clear hK22
                    refine ccond0 rfl ?_
                    refine cskip' (kthn (hK21 _ _ ?_))
                    clear hK21
                    refine cseq ?_; intro K23 hK23
                    have hJr22 : ∀ x : Nat, (True) → Sk 210 K23 ([(14, i64 S71.W.f.mask), (13, .bool w71.1.2), (12, ptr b12), (11, i64 S.W.f.epoch), (10, i64 S.W.f.holder), (9, i64 S.W.f.mask), (8, ptr b8), (7, i64 k), (6, ptr b6), (5, ptr l20), (1, av)]) ([sc b12 w71.1.1.cells 35, sc b8 a.cells 64, sc b6 [i64 S.W.f.l0, i64 S.W.f.l1] 67, lifeP l20 q20 (ptr S71.s) (wt % 20 + 1) mb20 false, ownM mb20 S71.kv S71.n, witP S71.s S71.c S71.W, celP S71.c q20 S71.W.c, dev q20 S71.D] ++ R) := by
                      rintro x hIr22
                      refine hK23 _ _ ?_
                      refine cseq ?_; intro K24 hK24
                      have hJr24 : ∀ x : Nat, (True) → Sk 210 K24 ([(14, i64 S71.W.f.mask), (13, .bool w71.1.2), (12, ptr b12), (11, i64 S.W.f.epoch), (10, i64 S.W.f.holder), (9, i64 S.W.f.mask), (8, ptr b8), (7, i64 k), (6, ptr b6), (5, ptr l20), (1, av)]) ([sc b12 w71.1.1.cells 35, sc b8 a.cells 64, sc b6 [i64 S71.W.f.l0, i64 S71.W.f.l1] 67, lifeP l20 q20 (ptr S71.s) (wt % 20 + 1) mb20 false, ownM mb20 S71.kv S71.n, witP S71.s S71.c S71.W, celP S71.c q20 S71.W.c, dev q20 S71.D] ++ R) := by
                        rintro x hIr24
                        refine hK24 _ _ ?_
                        refine cseq ?_; intro K25 hK25
                        refine creg ?_
                        skip
                        · skip
                          refine y (ev_move rfl) rfl ?_
                          refine y (ev_move rfl) rfl ?_
                          refine ysplit 193 rfl (fun h103 => ?_) (fun h103 => ?_)
                          · (try simp only [decide_eq_true_eq, beq_iff_eq, beq_eq_false_iff_ne, decide_eq_decide, decide_eq_false_iff_not, Bool.not_eq_true', Bool.not_eq_false', Bool.not_eq_true, Bool.not_eq_false, Bool.not_not, ne_eq, Option.isNone_some, Option.isSome_some, Option.isNone_none, Option.isSome_none] at h103)
                            refine yg1 rfl rfl ?_
                            refine y (ev_fieldAddr 0 rfl Try.underlying35 rfl Try.sizeOf3) rfl ?_
                            refine yg1 rfl rfl ?_
                            refine y (ev_load rfl Try.isAgg3 (by repeat first | exact .z | apply In.s) rfl) rfl ?_
                            refine yg1 rfl rfl ?_
                            refine y (ev_eql rfl rfl) rfl ?_
                            refine y (ev_pick1 rfl rfl) rfl ?_
                            refine y (ev_move rfl) rfl ?_
                            refine ysplit 198 rfl (fun h109 => ?_) (fun h109 => ?_)
                            · (try simp only [decide_eq_true_eq, beq_iff_eq, beq_eq_false_iff_ne, decide_eq_decide, decide_eq_false_iff_not, Bool.not_eq_true', Bool.not_eq_false', Bool.not_eq_true, Bool.not_eq_false, Bool.not_not, ne_eq, Option.isNone_some, Option.isSome_some, Option.isNone_none, Option.isSome_none] at h109)
                              refine yg1 rfl rfl ?_
                              refine y (ev_fieldAddr 6 rfl Try.underlying35 rfl Try.sizeOf32) rfl ?_
                              refine yg1 rfl rfl ?_
                              refine y (ev_load rfl Try.isAgg32 (by repeat first | exact .z | apply In.s) rfl) rfl ?_
                              refine yg1 rfl rfl ?_
                              refine y (ev_eql rfl rfl) rfl ?_
                              refine y (ev_pick1 rfl rfl) rfl ?_
                              refine y (ev_move rfl) rfl ?_
                              refine ysplit 203 rfl (fun h115 => ?_) (fun h115 => ?_)
                              · (try simp only [decide_eq_true_eq, beq_iff_eq, beq_eq_false_iff_ne, decide_eq_decide, decide_eq_false_iff_not, Bool.not_eq_true', Bool.not_eq_false', Bool.not_eq_true, Bool.not_eq_false, Bool.not_not, ne_eq, Option.isNone_some, Option.isSome_some, Option.isNone_none, Option.isSome_none] at h115)
                                refine yg1 rfl rfl ?_
                                refine y (ev_move rfl) rfl ?_
                                refine yg1 rfl rfl ?_
                                refine y (ev_fieldAddr 2 rfl Try.underlying64 rfl Try.sizeOf3) rfl ?_
                                refine yg1 rfl rfl ?_
                                refine y (ev_load rfl Try.isAgg3 (by repeat first | exact .z | apply In.s) rfl) rfl ?_
                                refine yg1 rfl rfl ?_
                                refine ycall (refIn) rfl Try.call31 (by repeat first | exact .nil | exact .z | apply Pk.s | apply Tk.cons) rfl ?_
                                rintro v L' ⟨rfl, rfl⟩
                                have hgr := hMk.grant (grantB_of (by assumption) (by assumption) (by assumption))
                                rw [refInB_in hS.good.fok.mask hgr.2, hgr.1]
                                refine yg1 rfl rfl ?_
                                refine y (ev_not rfl) rfl ?_
                                refine y (ev_pick1 rfl rfl) rfl ?_
                                refine ynil' (kthn (hK25 _ _ ?_))
                                clear hK25
                                refine ccond0 rfl ?_
                                refine cskip' (kbn (kthn (hK11 _ _ ?_)))
                                clear hK11
                                refine creg ?_
                                refine y (ev_move rfl) rfl ?_
                                refine y (ev_add rfl rfl) rfl ?_
                                rw [show IntKind.i64.wrap ((k:Int) + 1) = ((k+1 : Nat) : Int) by rw [wr (by omega) (by omega)]; rfl]
                                refine y (ev_assign rfl) rfl ?_
                                refine ynil' (kthn ?_)
                                first
                                  | exact hL1 (k + 1, S71) ⟨hS71, by dsimp only; omega, by dsimp only; omega⟩ (by dsimp only; omega) _ _ (by repeat first | exact sub_nil | refine sub_cons rfl ?_ | refine sub_cons' rfl (by simp) ?_) (by repeat first | exact .refl | exact .nil | exact .z | apply Pk.s | refine Ge.e ?_ | apply Ge.pick | apply Ge.drop)
                                  | exact hL1 (k + 1, S) ⟨hS.up1, by dsimp only; omega, by dsimp only; omega⟩ (by dsimp only; omega) _ _ (by repeat first | exact sub_nil | refine sub_cons rfl ?_ | refine sub_cons' rfl (by simp) ?_) (by repeat first | exact .refl | exact .nil | exact .z | apply Pk.s | refine Ge.e ?_ | apply Ge.pick | apply Ge.drop)
                              · (try simp only [decide_eq_true_eq, beq_iff_eq, beq_eq_false_iff_ne, decide_eq_decide, decide_eq_false_iff_not, Bool.not_eq_true', Bool.not_eq_false', Bool.not_eq_true, Bool.not_eq_false, Bool.not_not, ne_eq, Option.isNone_some, Option.isSome_some, Option.isNone_none, Option.isSome_none] at h115)
                                refine yg0 rfl rfl rfl rfl ?_
                                refine yg0 rfl rfl rfl rfl ?_
                                refine yg0 rfl rfl rfl rfl ?_
                                refine yg0 rfl rfl rfl rfl ?_
                                refine yg0 rfl rfl rfl rfl ?_
                                refine y (ev_pick0 rfl rfl) rfl ?_
                                refine ynil' (kthn (hK25 _ _ ?_))
                                clear hK25
                                refine ccond0 rfl ?_
                                refine cskip' (kbn (kthn (hK11 _ _ ?_)))
                                clear hK11
                                refine creg ?_
                                refine y (ev_move rfl) rfl ?_
                                refine y (ev_add rfl rfl) rfl ?_
                                rw [show IntKind.i64.wrap ((k:Int) + 1) = ((k+1 : Nat) : Int) by rw [wr (by omega) (by omega)]; rfl]
                                refine y (ev_assign rfl) rfl ?_
                                refine ynil' (kthn ?_)
                                first
                                  | exact hL1 (k + 1, S71) ⟨hS71, by dsimp only; omega, by dsimp only; omega⟩ (by dsimp only; omega) _ _ (by repeat first | exact sub_nil | refine sub_cons rfl ?_ | refine sub_cons' rfl (by simp) ?_) (by repeat first | exact .refl | exact .nil | exact .z | apply Pk.s | refine Ge.e ?_ | apply Ge.pick | apply Ge.drop)
                                  | exact hL1 (k + 1, S) ⟨hS.up1, by dsimp only; omega, by dsimp only; omega⟩ (by dsimp only; omega) _ _ (by repeat first | exact sub_nil | refine sub_cons rfl ?_ | refine sub_cons' rfl (by simp) ?_) (by repeat first | exact .refl | exact .nil | exact .z | apply Pk.s | refine Ge.e ?_ | apply Ge.pick | apply Ge.drop)
                            · (try simp only [decide_eq_true_eq, beq_iff_eq, beq_eq_false_iff_ne, decide_eq_decide, decide_eq_false_iff_not, Bool.not_eq_true', Bool.not_eq_false', Bool.not_eq_true, Bool.not_eq_false, Bool.not_not, ne_eq, Option.isNone_some, Option.isSome_some, Option.isNone_none, Option.isSome_none] at h109)
                              refine yg0 rfl rfl rfl rfl ?_
                              refine yg0 rfl rfl rfl rfl ?_
                              refine yg0 rfl rfl rfl rfl ?_
                              refine y (ev_pick0 rfl rfl) rfl ?_
                              refine y (ev_move rfl) rfl ?_
                              refine yg0 rfl rfl rfl rfl ?_
                              refine yg0 rfl rfl rfl rfl ?_
                              refine yg0 rfl rfl rfl rfl ?_
                              refine yg0 rfl rfl rfl rfl ?_
                              refine yg0 rfl rfl rfl rfl ?_
                              refine y (ev_pick0 rfl rfl) rfl ?_
                              refine ynil' (kthn (hK25 _ _ ?_))
                              clear hK25
                              refine ccond0 rfl ?_
                              refine cskip' (kbn (kthn (hK11 _ _ ?_)))
                              clear hK11
                              refine creg ?_
                              refine y (ev_move rfl) rfl ?_
                              refine y (ev_add rfl rfl) rfl ?_
                              rw [show IntKind.i64.wrap ((k:Int) + 1) = ((k+1 : Nat) : Int) by rw [wr (by omega) (by omega)]; rfl]
                              refine y (ev_assign rfl) rfl ?_
                              refine ynil' (kthn ?_)
                              first
                                | exact hL1 (k + 1, S71) ⟨hS71, by dsimp only; omega, by dsimp only; omega⟩ (by dsimp only; omega) _ _ (by repeat first | exact sub_nil | refine sub_cons rfl ?_ | refine sub_cons' rfl (by simp) ?_) (by repeat first | exact .refl | exact .nil | exact .z | apply Pk.s | refine Ge.e ?_ | apply Ge.pick | apply Ge.drop)
                                | exact hL1 (k + 1, S) ⟨hS.up1, by dsimp only; omega, by dsimp only; omega⟩ (by dsimp only; omega) _ _ (by repeat first | exact sub_nil | refine sub_cons rfl ?_ | refine sub_cons' rfl (by simp) ?_) (by repeat first | exact .refl | exact .nil | exact .z | apply Pk.s | refine Ge.e ?_ | apply Ge.pick | apply Ge.drop)
                          · (try simp only [decide_eq_true_eq, beq_iff_eq, beq_eq_false_iff_ne, decide_eq_decide, decide_eq_false_iff_not, Bool.not_eq_true', Bool.not_eq_false', Bool.not_eq_true, Bool.not_eq_false, Bool.not_not, ne_eq, Option.isNone_some, Option.isSome_some, Option.isNone_none, Option.isSome_none] at h103)
                            refine yg0 rfl rfl rfl rfl ?_
                            refine yg0 rfl rfl rfl rfl ?_
                            refine yg0 rfl rfl rfl rfl ?_
                            refine y (ev_pick0 rfl rfl) rfl ?_
                            refine y (ev_move rfl) rfl ?_
                            refine yg0 rfl rfl rfl rfl ?_
                            refine yg0 rfl rfl rfl rfl ?_
                            refine yg0 rfl rfl rfl rfl ?_
                            refine y (ev_pick0 rfl rfl) rfl ?_
                            refine y (ev_move rfl) rfl ?_
                            refine yg0 rfl rfl rfl rfl ?_
                            refine yg0 rfl rfl rfl rfl ?_
                            refine yg0 rfl rfl rfl rfl ?_
                            refine yg0 rfl rfl rfl rfl ?_
                            refine yg0 rfl rfl rfl rfl ?_
                            refine y (ev_pick0 rfl rfl) rfl ?_
                            refine ynil' (kthn (hK25 _ _ ?_))
                            clear hK25
                            refine ccond0 rfl ?_
                            refine cskip' (kbn (kthn (hK11 _ _ ?_)))
                            clear hK11
                            refine creg ?_
                            refine y (ev_move rfl) rfl ?_
                            refine y (ev_add rfl rfl) rfl ?_
                            rw [show IntKind.i64.wrap ((k:Int) + 1) = ((k+1 : Nat) : Int) by rw [wr (by omega) (by omega)]; rfl]
                            refine y (ev_assign rfl) rfl ?_
                            refine ynil' (kthn ?_)
                            first
                              | exact hL1 (k + 1, S71) ⟨hS71, by dsimp only; omega, by dsimp only; omega⟩ (by dsimp only; omega) _ _ (by repeat first | exact sub_nil | refine sub_cons rfl ?_ | refine sub_cons' rfl (by simp) ?_) (by repeat first | exact .refl | exact .nil | exact .z | apply Pk.s | refine Ge.e ?_ | apply Ge.pick | apply Ge.drop)
                              | exact hL1 (k + 1, S) ⟨hS.up1, by dsimp only; omega, by dsimp only; omega⟩ (by dsimp only; omega) _ _ (by repeat first | exact sub_nil | refine sub_cons rfl ?_ | refine sub_cons' rfl (by simp) ?_) (by repeat first | exact .refl | exact .nil | exact .z | apply Pk.s | refine Ge.e ?_ | apply Ge.pick | apply Ge.drop)
                      clear hK24
                      refine cseq ?_; intro K26 hK26
                      refine creg ?_
                      refine y (ev_move rfl) rfl ?_
                      refine y (ev_move rfl) rfl ?_
                      refine ysplit 161 rfl (fun h145 => ?_) (fun h145 => ?_)
                      · (try simp only [decide_eq_true_eq, beq_iff_eq, beq_eq_false_iff_ne, decide_eq_decide, decide_eq_false_iff_not, Bool.not_eq_true', Bool.not_eq_false', Bool.not_eq_true, Bool.not_eq_false, Bool.not_not, ne_eq, Option.isNone_some, Option.isSome_some, Option.isNone_none, Option.isSome_none] at h145)
                        refine yg1 rfl rfl ?_
                        refine y (ev_fieldAddr 0 rfl Try.underlying35 rfl Try.sizeOf3) rfl ?_
                        refine yg1 rfl rfl ?_
                        refine y (ev_load rfl Try.isAgg3 (by repeat first | exact .z | apply In.s) rfl) rfl ?_
                        refine yg1 rfl rfl ?_
                        refine y (ev_eql rfl rfl) rfl ?_
                        refine y (ev_pick1 rfl rfl) rfl ?_
                        refine y (ev_move rfl) rfl ?_
                        refine ysplit 166 rfl (fun h151 => ?_) (fun h151 => ?_)
                        · (try simp only [decide_eq_true_eq, beq_iff_eq, beq_eq_false_iff_ne, decide_eq_decide, decide_eq_false_iff_not, Bool.not_eq_true', Bool.not_eq_false', Bool.not_eq_true, Bool.not_eq_false, Bool.not_not, ne_eq, Option.isNone_some, Option.isSome_some, Option.isNone_none, Option.isSome_none] at h151)
                          refine yg1 rfl rfl ?_
                          refine y (ev_fieldAddr 6 rfl Try.underlying35 rfl Try.sizeOf32) rfl ?_
                          refine yg1 rfl rfl ?_
                          refine y (ev_load rfl Try.isAgg32 (by repeat first | exact .z | apply In.s) rfl) rfl ?_
                          refine yg1 rfl rfl ?_
                          refine y (ev_eql rfl rfl) rfl ?_
                          refine y (ev_pick1 rfl rfl) rfl ?_
                          refine y (ev_move rfl) rfl ?_
                          refine ysplit 171 rfl (fun h157 => ?_) (fun h157 => ?_)
                          · (try simp only [decide_eq_true_eq, beq_iff_eq, beq_eq_false_iff_ne, decide_eq_decide, decide_eq_false_iff_not, Bool.not_eq_true', Bool.not_eq_false', Bool.not_eq_true, Bool.not_eq_false, Bool.not_not, ne_eq, Option.isNone_some, Option.isSome_some, Option.isNone_none, Option.isSome_none] at h157)
                            refine yg1 rfl rfl ?_
                            refine y (ev_fieldAddr 2 rfl Try.underlying64 rfl Try.sizeOf3) rfl ?_
                            refine yg1 rfl rfl ?_
                            refine y (ev_load rfl Try.isAgg3 (by repeat first | exact .z | apply In.s) rfl) rfl ?_
                            refine yg1 rfl rfl ?_
                            refine y (ev_eql rfl rfl) rfl ?_
                            refine yg1 rfl rfl ?_
                            refine y (ev_move rfl) rfl ?_
                            refine ysplit 175 rfl (fun h162 => ?_) (fun h162 => ?_)
                            · (try simp only [decide_eq_true_eq, beq_iff_eq, beq_eq_false_iff_ne, decide_eq_decide, decide_eq_false_iff_not, Bool.not_eq_true', Bool.not_eq_false', Bool.not_eq_true, Bool.not_eq_false, Bool.not_not, ne_eq, Option.isNone_some, Option.isSome_some, Option.isNone_none, Option.isSome_none] at h162)
                              refine yg0 rfl rfl rfl rfl ?_
                              refine yg0 rfl rfl rfl rfl ?_
                              refine yg0 rfl rfl rfl rfl ?_
                              refine yg1 rfl rfl ?_
                              refine y (ev_pick1 rfl rfl) rfl ?_
                              refine y (ev_pick1 rfl rfl) rfl ?_
                              refine ynil' (kthn (hK26 _ _ ?_))
                              clear hK26
                              refine ccond1 rfl ?_
                              refine cdraw 11 [(0, true), (1, true), (2, true), (3, true), (4, true), (5, true), (6, true), (7, true), (8, true), (9, true), (10, true)] (_) Try.mixed (by kernel_rfl) .refl ?_
                              refine hr rfl (ev_fieldAddr 2 rfl Try.underlying64 rfl Try.sizeOf3) rfl ?_
                              refine hr rfl (ev_load rfl Try.isAgg3 (by repeat first | exact .z | apply In.s) rfl) rfl ?_
                              refine hr rfl (ev_fieldAddr 2 rfl Try.underlying64 rfl Try.sizeOf3) rfl ?_
                              refine hr rfl (ev_load rfl Try.isAgg3 (by repeat first | exact .z | apply In.s) rfl) rfl ?_
                              refine hr rfl (ev_ixAddrA rfl rfl Try.underlying67 Try.sizeOf2 (by omega) (by omega)) rfl ?_
                              refine hr rfl (ev_load rfl Try.isAgg2 (by repeat first | exact .z | apply In.s) (loss_get (by omega))) rfl ?_
                              refine hr rfl (ev_fieldAddr 3 rfl Try.underlying64 rfl Try.sizeOf35) rfl ?_
                              refine hr rfl (ev_fieldAddr 3 rfl Try.underlying35 rfl Try.sizeOf2) rfl ?_
                              refine hr rfl (ev_load rfl Try.isAgg2 (by repeat first | exact .z | apply In.s) rfl) rfl ?_
                              refine hr rfl (ev_max rfl rfl) rfl ?_
                              rw [show (if a.m.n > S.W.f.loss a.fr then a.m.n else S.W.f.loss a.fr) = max (S.W.f.loss a.fr) a.m.n by split <;> omega]
                              refine hr rfl (ev_ixAddrA rfl rfl Try.underlying67 Try.sizeOf2 (by omega) (by omega)) rfl ?_
                              refine hnil ?_
                              refine ya0 (ac_store (vs' := [i64 S71.W.f.l0, i64 S71.W.f.l1]) rfl rfl rfl Try.sizeOf2 (by repeat first | exact .z | apply Rp.s) (by rcases (show a.fr = 0 ∨ a.fr = 1 by omega) with h | h <;> rw [h] <;> rfl) (loss_set hMk (by assumption) (by assumption) (by assumption) (by omega))) ?_
                              rintro v L' ⟨rfl, rfl⟩
                              refine hnoP' (kthn ?_)
                              first
                                | (have hls := loss_same hMk (by rintro ⟨p1, p2, p3, p4⟩; first | omega | exact absurd (p1.symm.trans (show w71.1.2 = false by assumption)) (by decide)); rw [← hls.1, ← hls.2]; exact ksub (by repeat first | exact sub_nil | refine sub_cons rfl ?_ | refine sub_cons' rfl (by simp) ?_) (by repeat first | exact .refl | exact .nil | exact .z | apply Pk.s | refine Ge.e ?_ | apply Ge.pick | apply Ge.drop) (hJr24 0 trivial))
                                | exact ksub (by repeat first | exact sub_nil | refine sub_cons rfl ?_ | refine sub_cons' rfl (by simp) ?_) (by repeat first | exact .refl | exact .nil | exact .z | apply Pk.s | refine Ge.e ?_ | apply Ge.pick | apply Ge.drop) (hJr24 0 trivial)
                            · (try simp only [decide_eq_true_eq, beq_iff_eq, beq_eq_false_iff_ne, decide_eq_decide, decide_eq_false_iff_not, Bool.not_eq_true', Bool.not_eq_false', Bool.not_eq_true, Bool.not_eq_false, Bool.not_not, ne_eq, Option.isNone_some, Option.isSome_some, Option.isNone_none, Option.isSome_none] at h162)
                              refine yg1 rfl rfl ?_
                              refine y (ev_fieldAddr 2 rfl Try.underlying64 rfl Try.sizeOf3) rfl ?_
                              refine yg1 rfl rfl ?_
                              refine y (ev_load rfl Try.isAgg3 (by repeat first | exact .z | apply In.s) rfl) rfl ?_
                              refine yg1 rfl rfl ?_
                              refine y (ev_eql rfl rfl) rfl ?_
                              refine yg1 rfl rfl ?_
                              refine y (ev_pick0 rfl rfl) rfl ?_
                              refine y (ev_pick1 rfl rfl) rfl ?_
                              refine ynil' (kthn (hK26 _ _ ?_))
                              clear hK26
                              refine ccond rfl (fun h182 => ?_) (fun h182 => ?_)
                              · (try simp only [decide_eq_true_eq, beq_iff_eq, beq_eq_false_iff_ne, decide_eq_decide, decide_eq_false_iff_not, Bool.not_eq_true', Bool.not_eq_false', Bool.not_eq_true, Bool.not_eq_false, Bool.not_not, ne_eq, Option.isNone_some, Option.isSome_some, Option.isNone_none, Option.isSome_none] at h182)
                                refine cdraw 11 [(0, true), (1, true), (2, true), (3, true), (4, true), (5, true), (6, true), (7, true), (8, true), (9, true), (10, true)] (_) Try.mixed (by kernel_rfl) .refl ?_
                                refine hr rfl (ev_fieldAddr 2 rfl Try.underlying64 rfl Try.sizeOf3) rfl ?_
                                refine hr rfl (ev_load rfl Try.isAgg3 (by repeat first | exact .z | apply In.s) rfl) rfl ?_
                                refine hr rfl (ev_fieldAddr 2 rfl Try.underlying64 rfl Try.sizeOf3) rfl ?_
                                refine hr rfl (ev_load rfl Try.isAgg3 (by repeat first | exact .z | apply In.s) rfl) rfl ?_
                                refine hr rfl (ev_ixAddrA rfl rfl Try.underlying67 Try.sizeOf2 (by omega) (by omega)) rfl ?_
                                refine hr rfl (ev_load rfl Try.isAgg2 (by repeat first | exact .z | apply In.s) (loss_get (by omega))) rfl ?_
                                refine hr rfl (ev_fieldAddr 3 rfl Try.underlying64 rfl Try.sizeOf35) rfl ?_
                                refine hr rfl (ev_fieldAddr 3 rfl Try.underlying35 rfl Try.sizeOf2) rfl ?_
                                refine hr rfl (ev_load rfl Try.isAgg2 (by repeat first | exact .z | apply In.s) rfl) rfl ?_
                                refine hr rfl (ev_max rfl rfl) rfl ?_
                                rw [show (if a.m.n > S.W.f.loss a.fr then a.m.n else S.W.f.loss a.fr) = max (S.W.f.loss a.fr) a.m.n by split <;> omega]
                                refine hr rfl (ev_ixAddrA rfl rfl Try.underlying67 Try.sizeOf2 (by omega) (by omega)) rfl ?_
                                refine hnil ?_
                                refine ya0 (ac_store (vs' := [i64 S71.W.f.l0, i64 S71.W.f.l1]) rfl rfl rfl Try.sizeOf2 (by repeat first | exact .z | apply Rp.s) (by rcases (show a.fr = 0 ∨ a.fr = 1 by omega) with h | h <;> rw [h] <;> rfl) (loss_set hMk (by assumption) (by assumption) (by assumption) (by omega))) ?_
                                rintro v L' ⟨rfl, rfl⟩
                                refine hnoP' (kthn ?_)
                                first
                                  | (have hls := loss_same hMk (by rintro ⟨p1, p2, p3, p4⟩; first | omega | exact absurd (p1.symm.trans (show w71.1.2 = false by assumption)) (by decide)); rw [← hls.1, ← hls.2]; exact ksub (by repeat first | exact sub_nil | refine sub_cons rfl ?_ | refine sub_cons' rfl (by simp) ?_) (by repeat first | exact .refl | exact .nil | exact .z | apply Pk.s | refine Ge.e ?_ | apply Ge.pick | apply Ge.drop) (hJr24 0 trivial))
                                  | exact ksub (by repeat first | exact sub_nil | refine sub_cons rfl ?_ | refine sub_cons' rfl (by simp) ?_) (by repeat first | exact .refl | exact .nil | exact .z | apply Pk.s | refine Ge.e ?_ | apply Ge.pick | apply Ge.drop) (hJr24 0 trivial)
                              · (try simp only [decide_eq_true_eq, beq_iff_eq, beq_eq_false_iff_ne, decide_eq_decide, decide_eq_false_iff_not, Bool.not_eq_true', Bool.not_eq_false', Bool.not_eq_true, Bool.not_eq_false, Bool.not_not, ne_eq, Option.isNone_some, Option.isSome_some, Option.isNone_none, Option.isSome_none] at h182)
                                refine cskip' (kthn ?_)
                                first
                                  | (have hls := loss_same hMk (by rintro ⟨p1, p2, p3, p4⟩; first | omega | exact absurd (p1.symm.trans (show w71.1.2 = false by assumption)) (by decide)); rw [← hls.1, ← hls.2]; exact ksub (by repeat first | exact sub_nil | refine sub_cons rfl ?_ | refine sub_cons' rfl (by simp) ?_) (by repeat first | exact .refl | exact .nil | exact .z | apply Pk.s | refine Ge.e ?_ | apply Ge.pick | apply Ge.drop) (hJr24 0 trivial))
                                  | exact ksub (by repeat first | exact sub_nil | refine sub_cons rfl ?_ | refine sub_cons' rfl (by simp) ?_) (by repeat first | exact .refl | exact .nil | exact .z | apply Pk.s | refine Ge.e ?_ | apply Ge.pick | apply Ge.drop) (hJr24 0 trivial)
                          · (try simp only [decide_eq_true_eq, beq_iff_eq, beq_eq_false_iff_ne, decide_eq_decide, decide_eq_false_iff_not, Bool.not_eq_true', Bool.not_eq_false', Bool.not_eq_true, Bool.not_eq_false, Bool.not_not, ne_eq, Option.isNone_some, Option.isSome_some, Option.isNone_none, Option.isSome_none] at h157)
                            refine yg0 rfl rfl rfl rfl ?_
                            refine yg0 rfl rfl rfl rfl ?_
                            refine yg0 rfl rfl rfl rfl ?_
                            refine yg0 rfl rfl rfl rfl ?_
                            refine yg0u rfl rfl rfl ?_
                            refine yg0u rfl rfl rfl ?_
                            refine yg0u rfl rfl rfl ?_
                            refine yg0 rfl rfl rfl rfl ?_
                            refine y (ev_pick0 rfl rfl) rfl ?_
                            refine ynil' (kthn (hK26 _ _ ?_))
                            clear hK26
                            refine ccond0 rfl ?_
                            refine cskip' (kthn ?_)
                            first
                              | (have hls := loss_same hMk (by rintro ⟨p1, p2, p3, p4⟩; first | omega | exact absurd (p1.symm.trans (show w71.1.2 = false by assumption)) (by decide)); rw [← hls.1, ← hls.2]; exact ksub (by repeat first | exact sub_nil | refine sub_cons rfl ?_ | refine sub_cons' rfl (by simp) ?_) (by repeat first | exact .refl | exact .nil | exact .z | apply Pk.s | refine Ge.e ?_ | apply Ge.pick | apply Ge.drop) (hJr24 0 trivial))
                              | exact ksub (by repeat first | exact sub_nil | refine sub_cons rfl ?_ | refine sub_cons' rfl (by simp) ?_) (by repeat first | exact .refl | exact .nil | exact .z | apply Pk.s | refine Ge.e ?_ | apply Ge.pick | apply Ge.drop) (hJr24 0 trivial)
                        · (try simp only [decide_eq_true_eq, beq_iff_eq, beq_eq_false_iff_ne, decide_eq_decide, decide_eq_false_iff_not, Bool.not_eq_true', Bool.not_eq_false', Bool.not_eq_true, Bool.not_eq_false, Bool.not_not, ne_eq, Option.isNone_some, Option.isSome_some, Option.isNone_none, Option.isSome_none] at h151)
                          refine yg0 rfl rfl rfl rfl ?_
                          refine yg0 rfl rfl rfl rfl ?_
                          refine yg0 rfl rfl rfl rfl ?_
                          refine y (ev_pick0 rfl rfl) rfl ?_
                          refine y (ev_move rfl) rfl ?_
                          refine yg0 rfl rfl rfl rfl ?_
                          refine yg0 rfl rfl rfl rfl ?_
                          refine yg0 rfl rfl rfl rfl ?_
                          refine yg0 rfl rfl rfl rfl ?_
                          refine yg0u rfl rfl rfl ?_
                          refine yg0u rfl rfl rfl ?_
                          refine yg0u rfl rfl rfl ?_
                          refine yg0 rfl rfl rfl rfl ?_
                          refine y (ev_pick0 rfl rfl) rfl ?_
                          refine ynil' (kthn (hK26 _ _ ?_))
                          clear hK26
                          refine ccond0 rfl ?_
                          refine cskip' (kthn ?_)
                          first
                            | (have hls := loss_same hMk (by rintro ⟨p1, p2, p3, p4⟩; first | omega | exact absurd (p1.symm.trans (show w71.1.2 = false by assumption)) (by decide)); rw [← hls.1, ← hls.2]; exact ksub (by repeat first | exact sub_nil | refine sub_cons rfl ?_ | refine sub_cons' rfl (by simp) ?_) (by repeat first | exact .refl | exact .nil | exact .z | apply Pk.s | refine Ge.e ?_ | apply Ge.pick | apply Ge.drop) (hJr24 0 trivial))
                            | exact ksub (by repeat first | exact sub_nil | refine sub_cons rfl ?_ | refine sub_cons' rfl (by simp) ?_) (by repeat first | exact .refl | exact .nil | exact .z | apply Pk.s | refine Ge.e ?_ | apply Ge.pick | apply Ge.drop) (hJr24 0 trivial)
                      · (try simp only [decide_eq_true_eq, beq_iff_eq, beq_eq_false_iff_ne, decide_eq_decide, decide_eq_false_iff_not, Bool.not_eq_true', Bool.not_eq_false', Bool.not_eq_true, Bool.not_eq_false, Bool.not_not, ne_eq, Option.isNone_some, Option.isSome_some, Option.isNone_none, Option.isSome_none] at h145)
                        refine yg0 rfl rfl rfl rfl ?_
                        refine yg0 rfl rfl rfl rfl ?_
                        refine yg0 rfl rfl rfl rfl ?_
                        refine y (ev_pick0 rfl rfl) rfl ?_
                        refine y (ev_move rfl) rfl ?_
                        refine yg0 rfl rfl rfl rfl ?_
                        refine yg0 rfl rfl rfl rfl ?_
                        refine yg0 rfl rfl rfl rfl ?_
                        refine y (ev_pick0 rfl rfl) rfl ?_
                        refine y (ev_move rfl) rfl ?_
                        refine yg0 rfl rfl rfl rfl ?_
                        refine yg0 rfl rfl rfl rfl ?_
                        refine yg0 rfl rfl rfl rfl ?_
                        refine yg0 rfl rfl rfl rfl ?_
                        refine yg0u rfl rfl rfl ?_
                        refine yg0u rfl rfl rfl ?_
                        refine yg0u rfl rfl rfl ?_
                        refine yg0 rfl rfl rfl rfl ?_
                        refine y (ev_pick0 rfl rfl) rfl ?_
                        refine ynil' (kthn (hK26 _ _ ?_))
                        clear hK26
                        refine ccond0 rfl ?_
                        refine cskip' (kthn ?_)
                        first
                          | (have hls := loss_same hMk (by rintro ⟨p1, p2, p3, p4⟩; first | omega | exact absurd (p1.symm.trans (show w71.1.2 = false by assumption)) (by decide)); rw [← hls.1, ← hls.2]; exact ksub (by repeat first | exact sub_nil | refine sub_cons rfl ?_ | refine sub_cons' rfl (by simp) ?_) (by repeat first | exact .refl | exact .nil | exact .z | apply Pk.s | refine Ge.e ?_ | apply Ge.pick | apply Ge.drop) (hJr24 0 trivial))
                          | exact ksub (by repeat first | exact sub_nil | refine sub_cons rfl ?_ | refine sub_cons' rfl (by simp) ?_) (by repeat first | exact .refl | exact .nil | exact .z | apply Pk.s | refine Ge.e ?_ | apply Ge.pick | apply Ge.drop) (hJr24 0 trivial)
                    clear hK23
                    refine cseq ?_; intro K27 hK27
                    refine creg ?_
                    refine y (ev_move rfl) rfl ?_
                    refine y (ev_move rfl) rfl ?_
                    refine y (ev_neq rfl rfl) rfl ?_
                    refine ynil' (kthn (hK27 _ _ ?_))
                    clear hK27
                    refine ccond rfl (fun h207 => ?_) (fun h207 => ?_)
                    · (try simp only [decide_eq_true_eq, beq_iff_eq, beq_eq_false_iff_ne, decide_eq_decide, decide_eq_false_iff_not, Bool.not_eq_true', Bool.not_eq_false', Bool.not_eq_true, Bool.not_eq_false, Bool.not_not, ne_eq, Option.isNone_some, Option.isSome_some, Option.isNone_none, Option.isSome_none] at h207)
                      have hne : S71.W.f.mask ≠ S.W.f.mask := by omega
                      have his := hMk.is hne
                      refine cseq ?_; intro K28 hK28
                      refine creg ?_
                      rcases hMk.turned hne with ⟨p1, p2, p3, p4⟩ | ⟨p1, p2, p3, p4⟩
                      · skip
                        refine y (ev_fieldAddr 3 rfl Try.underlying64 rfl Try.sizeOf35) rfl ?_
                        refine y (ev_fieldAddr 0 rfl Try.underlying35 rfl Try.sizeOf3) rfl ?_
                        refine y (ev_load rfl Try.isAgg3 (by repeat first | exact .z | apply In.s) rfl) rfl ?_
                        refine y (ev_eql rfl rfl) rfl ?_
                        first | rw [decide_eq_true p1] | rw [decide_eq_false (show ¬ a.m.kind = 3 by omega)]
                        refine y (ev_move rfl) rfl ?_
                        refine yg1 rfl rfl ?_
                        refine y (ev_fieldAddr 2 rfl Try.underlying64 rfl Try.sizeOf3) rfl ?_
                        refine yg1 rfl rfl ?_
                        refine y (ev_load rfl Try.isAgg3 (by repeat first | exact .z | apply In.s) rfl) rfl ?_
                        refine yg1 rfl rfl ?_
                        refine y (ev_move rfl) rfl ?_
                        refine yg1 rfl rfl ?_
                        refine y (ev_eql rfl rfl) rfl ?_
                        rw [show decide (a.fr = S.W.f.holder) = true by simp [p2]]
                        refine y (ev_pick1 rfl rfl) rfl ?_
                        refine y (ev_move rfl) rfl ?_
                        refine yg1 rfl rfl ?_
                        refine y (ev_fieldAddr 3 rfl Try.underlying64 rfl Try.sizeOf35) rfl ?_
                        refine yg1 rfl rfl ?_
                        refine y (ev_fieldAddr 1 rfl Try.underlying35 rfl Try.sizeOf2) rfl ?_
                        refine yg1 rfl rfl ?_
                        refine y (ev_load rfl Try.isAgg2 (by repeat first | exact .z | apply In.s) rfl) rfl ?_
                        refine yg1 rfl rfl ?_
                        refine y (ev_move rfl) rfl ?_
                        refine yg1 rfl rfl ?_
                        refine y (ev_eql rfl rfl) rfl ?_
                        rw [show decide (a.m.epoch = S.W.f.epoch) = true by simp [p3]]
                        refine y (ev_pick1 rfl rfl) rfl ?_
                        refine y (ev_move rfl) rfl ?_
                        refine yg1 rfl rfl ?_
                        refine y (ev_fieldAddr 6 rfl Try.underlying35 rfl Try.sizeOf32) rfl ?_
                        refine yg1 rfl rfl ?_
                        refine y (ev_load rfl Try.isAgg32 (by repeat first | exact .z | apply In.s) rfl) rfl ?_
                        refine yg1 rfl rfl ?_
                        refine y (ev_eql rfl rfl) rfl ?_
                        rw [show decide (w71.1.1.e = 0) = true by simp [p4]]
                        refine y (ev_pick1 rfl rfl) rfl ?_
                        refine y (ev_assign rfl) rfl ?_
                        refine ynil' (kthn (hK28 _ _ ?_))
                        clear hK28
                        refine cseq ?_; intro K29 hK29
                        refine cdraw 31 [(0, true), (1, true), (2, true), (3, true), (4, true), (5, true), (6, true), (7, true), (8, false), (9, true), (10, true), (11, true), (12, true), (13, true), (14, true), (15, true), (16, true), (17, true), (18, true), (19, true), (20, true), (21, true), (22, true), (23, true), (24, true), (25, true), (26, true), (27, true), (28, true), (29, true), (30, true)] ([sc b8 a.cells 64, sc b6 [i64 S.W.f.l0, i64 S.W.f.l1] 67] ++ R) Try.mixed (by kernel_rfl) (by repeat first | exact .refl | exact .nil | exact .z | apply Pk.s | refine Ge.e ?_ | apply Ge.pick | apply Ge.drop) ?_
                        refine hr rfl (ev_fieldAddr 3 rfl Try.underlying64 rfl Try.sizeOf35) rfl ?_
                        refine hr rfl (ev_fieldAddr 0 rfl Try.underlying35 rfl Try.sizeOf3) rfl ?_
                        refine hr rfl (ev_load rfl Try.isAgg3 (by repeat first | exact .z | apply In.s) rfl) rfl ?_
                        refine hr rfl (ev_eql rfl rfl) rfl ?_
                        first | rw [decide_eq_true p1] | rw [decide_eq_false (show ¬ a.m.kind = 4 by omega)]
                        refine hr rfl (ev_move rfl) rfl ?_
                        refine hr0 rfl rfl rfl rfl rfl ?_
                        refine hr0 rfl rfl rfl rfl rfl ?_
                        refine hr0 rfl rfl rfl rfl rfl ?_
                        refine ha0 rfl rfl rfl rfl rfl (by repeat first | exact .refl | exact .nil | exact .z | apply Pk.s | refine Ge.e ?_ | apply Ge.pick | apply Ge.drop) ?_
                        refine hr0 rfl rfl rfl rfl rfl ?_
                        refine hr rfl (ev_pick0 rfl rfl) rfl ?_
                        refine hr rfl (ev_move rfl) rfl ?_
                        refine hr0 rfl rfl rfl rfl rfl ?_
                        refine hr0 rfl rfl rfl rfl rfl ?_
                        refine hr0 rfl rfl rfl rfl rfl ?_
                        refine hr0 rfl rfl rfl rfl rfl ?_
                        refine hr0u rfl rfl rfl rfl ?_
                        refine hr0u rfl rfl rfl rfl ?_
                        refine hr0u rfl rfl rfl rfl ?_
                        refine hr0 rfl rfl rfl rfl rfl ?_
                        refine hr0 rfl rfl rfl rfl rfl ?_
                        refine hr0u rfl rfl rfl rfl ?_
                        refine hr0u rfl rfl rfl rfl ?_
                        refine hr0u rfl rfl rfl rfl ?_
                        refine hr0u rfl rfl rfl rfl ?_
                        refine hr0u rfl rfl rfl rfl ?_
                        refine hr0u rfl rfl rfl rfl ?_
                        refine hr0u rfl rfl rfl rfl ?_
                        refine hr0u rfl rfl rfl rfl ?_
                        refine hr0 rfl rfl rfl rfl rfl ?_
                        refine hr rfl (ev_pick0 rfl rfl) rfl ?_
                        refine hnil ?_
                        refine y (ev_assign rfl) rfl ?_
                        refine hnoP' (kthn (hK29 _ _ ?_))
                        clear hK29
                        refine cseq ?_; intro K30 hK30
                        refine creg ?_
                        refine y (ev_move rfl) rfl ?_
                        refine y (ev_not rfl) rfl ?_
                        rw [show (!w71.1.2) = false by rw [his]; rfl]
                        refine y (ev_move rfl) rfl ?_
                        refine yg1 rfl rfl ?_
                        refine y (ev_move rfl) rfl ?_
                        refine yg1 rfl rfl ?_
                        refine y (ev_not rfl) rfl ?_
                        refine yg1 rfl rfl ?_
                        refine y (ev_move rfl) rfl ?_
                        refine yg0 rfl rfl rfl rfl ?_
                        refine yg0 rfl rfl rfl rfl ?_
                        refine yg1 rfl rfl ?_
                        refine y (ev_pick0 rfl rfl) rfl ?_
                        refine y (ev_pick0 rfl rfl) rfl ?_
                        refine ynil' (kthn (hK30 _ _ ?_))
                        clear hK30
                        refine ccond0 rfl ?_
                        refine cskip' (kthn ?_)
                        exact ksub (by repeat first | exact sub_nil | refine sub_cons rfl ?_ | refine sub_cons' rfl (by simp) ?_) (by repeat first | exact .refl | exact .nil | exact .z | apply Pk.s | refine Ge.e ?_ | apply Ge.pick | apply Ge.drop) (hJr22 0 trivial)
                      · skip
                        refine y (ev_fieldAddr 3 rfl Try.underlying64 rfl Try.sizeOf35) rfl ?_
                        refine y (ev_fieldAddr 0 rfl Try.underlying35 rfl Try.sizeOf3) rfl ?_
                        refine y (ev_load rfl Try.isAgg3 (by repeat first | exact .z | apply In.s) rfl) rfl ?_
                        refine y (ev_eql rfl rfl) rfl ?_
                        first | rw [decide_eq_true p1] | rw [decide_eq_false (show ¬ a.m.kind = 3 by omega)]
                        refine y (ev_move rfl) rfl ?_
                        refine yg0 rfl rfl rfl rfl ?_
                        refine yg0 rfl rfl rfl rfl ?_
                        refine yg0 rfl rfl rfl rfl ?_
                        refine yg0 rfl rfl rfl rfl ?_
                        refine y (ev_pick0 rfl rfl) rfl ?_
                        refine y (ev_move rfl) rfl ?_
                        refine yg0 rfl rfl rfl rfl ?_
                        refine yg0 rfl rfl rfl rfl ?_
                        refine yg0 rfl rfl rfl rfl ?_
                        refine yg0 rfl rfl rfl rfl ?_
                        refine yg0 rfl rfl rfl rfl ?_
                        refine y (ev_pick0 rfl rfl) rfl ?_
                        refine y (ev_move rfl) rfl ?_
                        refine yg0 rfl rfl rfl rfl ?_
                        refine yg0 rfl rfl rfl rfl ?_
                        refine yg0 rfl rfl rfl rfl ?_
                        refine y (ev_pick0 rfl rfl) rfl ?_
                        refine y (ev_assign rfl) rfl ?_
                        refine ynil' (kthn (hK28 _ _ ?_))
                        clear hK28
                        refine cseq ?_; intro K31 hK31
                        refine cdraw 31 [(0, true), (1, true), (2, true), (3, true), (4, true), (5, true), (6, true), (7, true), (8, false), (9, true), (10, true), (11, true), (12, true), (13, true), (14, true), (15, true), (16, true), (17, true), (18, true), (19, true), (20, true), (21, true), (22, true), (23, true), (24, true), (25, true), (26, true), (27, true), (28, true), (29, true), (30, true)] ([sc b8 a.cells 64, sc b6 [i64 S.W.f.l0, i64 S.W.f.l1] 67] ++ R) Try.mixed (by kernel_rfl) (by repeat first | exact .refl | exact .nil | exact .z | apply Pk.s | refine Ge.e ?_ | apply Ge.pick | apply Ge.drop) ?_
                        refine hr rfl (ev_fieldAddr 3 rfl Try.underlying64 rfl Try.sizeOf35) rfl ?_
                        refine hr rfl (ev_fieldAddr 0 rfl Try.underlying35 rfl Try.sizeOf3) rfl ?_
                        refine hr rfl (ev_load rfl Try.isAgg3 (by repeat first | exact .z | apply In.s) rfl) rfl ?_
                        refine hr rfl (ev_eql rfl rfl) rfl ?_
                        first | rw [decide_eq_true p1] | rw [decide_eq_false (show ¬ a.m.kind = 4 by omega)]
                        refine hr rfl (ev_move rfl) rfl ?_
                        refine hr1 rfl rfl rfl (ev_move rfl) rfl ?_
                        refine hr1 rfl rfl rfl (ev_fieldAddr 2 rfl Try.underlying64 rfl Try.sizeOf3) rfl ?_
                        refine hr1 rfl rfl rfl (ev_load rfl Try.isAgg3 (by repeat first | exact .z | apply In.s) rfl) rfl ?_
                        refine hcall1 rfl rfl rfl (refIn) rfl Try.call31 (by repeat first | exact .nil | exact .z | apply Pk.s | apply Tk.cons) rfl ?_
                        rintro v L' ⟨rfl, rfl⟩; refine ⟨(by repeat first | exact .refl | exact .nil | exact .z | apply Pk.s | refine Ge.e ?_ | apply Ge.pick | apply Ge.drop), ?_⟩
                        rw [refInB_in hMk.rng p2, p3]
                        refine hr1 rfl rfl rfl (ev_not rfl) rfl ?_
                        refine hr rfl (ev_pick1 rfl rfl) rfl ?_
                        refine hr rfl (ev_move rfl) rfl ?_
                        refine hr1 rfl rfl rfl (ev_fieldAddr 2 rfl Try.underlying64 rfl Try.sizeOf3) rfl ?_
                        refine hr1 rfl rfl rfl (ev_load rfl Try.isAgg3 (by repeat first | exact .z | apply In.s) rfl) rfl ?_
                        refine hr1 rfl rfl rfl (ev_neq rfl rfl) rfl ?_
                        refine hr1 rfl rfl rfl (ev_move rfl) rfl ?_
                        refine hsplit 134 rfl (fun h275 => ?_) (fun h275 => ?_)
                        · (try simp only [decide_eq_true_eq, beq_iff_eq, beq_eq_false_iff_ne, decide_eq_decide, decide_eq_false_iff_not, Bool.not_eq_true', Bool.not_eq_false', Bool.not_eq_true, Bool.not_eq_false, Bool.not_not, ne_eq, Option.isNone_some, Option.isSome_some, Option.isNone_none, Option.isSome_none] at h275)
                          refine hr1 rfl rfl rfl (ev_fieldAddr 2 rfl Try.underlying64 rfl Try.sizeOf3) rfl ?_
                          refine hr1 rfl rfl rfl (ev_load rfl Try.isAgg3 (by repeat first | exact .z | apply In.s) rfl) rfl ?_
                          refine hr1 rfl rfl rfl (ev_neq rfl rfl) rfl ?_
                          refine hr1 rfl rfl rfl (ev_pick1 rfl rfl) rfl ?_
                          refine hr1 rfl rfl rfl (ev_move rfl) rfl ?_
                          refine hsplit 139 rfl (fun h281 => ?_) (fun h281 => ?_)
                          · (try simp only [decide_eq_true_eq, beq_iff_eq, beq_eq_false_iff_ne, decide_eq_decide, decide_eq_false_iff_not, Bool.not_eq_true', Bool.not_eq_false', Bool.not_eq_true, Bool.not_eq_false, Bool.not_not, ne_eq, Option.isNone_some, Option.isSome_some, Option.isNone_none, Option.isSome_none] at h281)
                            refine hr0 rfl rfl rfl rfl rfl ?_
                            refine hr0 rfl rfl rfl rfl rfl ?_
                            refine hr0 rfl rfl rfl rfl rfl ?_
                            refine hr0 rfl rfl rfl rfl rfl ?_
                            refine hr0 rfl rfl rfl rfl rfl ?_
                            refine hr0 rfl rfl rfl rfl rfl ?_
                            refine hr0 rfl rfl rfl rfl rfl ?_
                            refine hr0 rfl rfl rfl rfl rfl ?_
                            refine hr1 rfl rfl rfl (ev_pick1 rfl rfl) rfl ?_
                            refine hr rfl (ev_pick1 rfl rfl) rfl ?_
                            refine hnil ?_
                            refine y (ev_assign rfl) rfl ?_
                            refine hnoP' (kthn (hK31 _ _ ?_))
                            clear hK31
                            refine cseq ?_; intro K32 hK32
                            refine creg ?_
                            refine y (ev_move rfl) rfl ?_
                            refine y (ev_not rfl) rfl ?_
                            rw [show (!w71.1.2) = false by rw [his]; rfl]
                            refine y (ev_move rfl) rfl ?_
                            refine yg1 rfl rfl ?_
                            refine y (ev_move rfl) rfl ?_
                            refine yg1 rfl rfl ?_
                            refine y (ev_not rfl) rfl ?_
                            refine yg1 rfl rfl ?_
                            refine y (ev_move rfl) rfl ?_
                            refine yg1 rfl rfl ?_
                            refine y (ev_move rfl) rfl ?_
                            refine yg1 rfl rfl ?_
                            refine y (ev_not rfl) rfl ?_
                            refine yg1 rfl rfl ?_
                            refine y (ev_pick1 rfl rfl) rfl ?_
                            refine y (ev_pick0 rfl rfl) rfl ?_
                            refine ynil' (kthn (hK32 _ _ ?_))
                            clear hK32
                            refine ccond0 rfl ?_
                            refine cskip' (kthn ?_)
                            exact ksub (by repeat first | exact sub_nil | refine sub_cons rfl ?_ | refine sub_cons' rfl (by simp) ?_) (by repeat first | exact .refl | exact .nil | exact .z | apply Pk.s | refine Ge.e ?_ | apply Ge.pick | apply Ge.drop) (hJr22 0 trivial)
                          · (try simp only [decide_eq_true_eq, beq_iff_eq, beq_eq_false_iff_ne, decide_eq_decide, decide_eq_false_iff_not, Bool.not_eq_true', Bool.not_eq_false', Bool.not_eq_true, Bool.not_eq_false, Bool.not_not, ne_eq, Option.isNone_some, Option.isSome_some, Option.isNone_none, Option.isSome_none] at h281)
                            refine hr1 rfl rfl rfl (ev_fieldAddr 3 rfl Try.underlying64 rfl Try.sizeOf35) rfl ?_
                            refine hr1 rfl rfl rfl (ev_fieldAddr 3 rfl Try.underlying35 rfl Try.sizeOf2) rfl ?_
                            refine hr1 rfl rfl rfl (ev_load rfl Try.isAgg2 (by repeat first | exact .z | apply In.s) rfl) rfl ?_
                            refine hr1 rfl rfl rfl (ev_fieldAddr 2 rfl Try.underlying64 rfl Try.sizeOf3) rfl ?_
                            refine hr1 rfl rfl rfl (ev_load rfl Try.isAgg3 (by repeat first | exact .z | apply In.s) rfl) rfl ?_
                            refine hr1 rfl rfl rfl (ev_ixAddrA rfl rfl Try.underlying67 Try.sizeOf2 (by omega) (by omega)) rfl ?_
                            refine hr1 rfl rfl rfl (ev_load rfl Try.isAgg2 (by repeat first | exact .z | apply In.s) (loss_get p2)) rfl ?_
                            refine hr1 rfl rfl rfl (ev_gtr rfl rfl) rfl ?_
                            rw [show decide (S.W.f.loss a.fr < a.m.n) = true by simp; omega]
                            refine hr1 rfl rfl rfl (ev_pick0 rfl rfl) rfl ?_
                            refine hr rfl (ev_pick1 rfl rfl) rfl ?_
                            refine hnil ?_
                            refine y (ev_assign rfl) rfl ?_
                            refine hnoP' (kthn (hK31 _ _ ?_))
                            clear hK31
                            refine cseq ?_; intro K33 hK33
                            refine creg ?_
                            refine y (ev_move rfl) rfl ?_
                            refine y (ev_not rfl) rfl ?_
                            rw [show (!w71.1.2) = false by rw [his]; rfl]
                            refine y (ev_move rfl) rfl ?_
                            refine yg1 rfl rfl ?_
                            refine y (ev_move rfl) rfl ?_
                            refine yg1 rfl rfl ?_
                            refine y (ev_not rfl) rfl ?_
                            refine yg1 rfl rfl ?_
                            refine y (ev_move rfl) rfl ?_
                            refine yg1 rfl rfl ?_
                            refine y (ev_move rfl) rfl ?_
                            refine yg1 rfl rfl ?_
                            refine y (ev_not rfl) rfl ?_
                            refine yg1 rfl rfl ?_
                            refine y (ev_pick1 rfl rfl) rfl ?_
                            refine y (ev_pick0 rfl rfl) rfl ?_
                            refine ynil' (kthn (hK33 _ _ ?_))
                            clear hK33
                            refine ccond0 rfl ?_
                            refine cskip' (kthn ?_)
                            exact ksub (by repeat first | exact sub_nil | refine sub_cons rfl ?_ | refine sub_cons' rfl (by simp) ?_) (by repeat first | exact .refl | exact .nil | exact .z | apply Pk.s | refine Ge.e ?_ | apply Ge.pick | apply Ge.drop) (hJr22 0 trivial)
                        · (try simp only [decide_eq_true_eq, beq_iff_eq, beq_eq_false_iff_ne, decide_eq_decide, decide_eq_false_iff_not, Bool.not_eq_true', Bool.not_eq_false', Bool.not_eq_true, Bool.not_eq_false, Bool.not_not, ne_eq, Option.isNone_some, Option.isSome_some, Option.isNone_none, Option.isSome_none] at h275)
                          refine hr0 rfl rfl rfl rfl rfl ?_
                          refine hr0 rfl rfl rfl rfl rfl ?_
                          refine hr0 rfl rfl rfl rfl rfl ?_
                          refine hr1 rfl rfl rfl (ev_pick0 rfl rfl) rfl ?_
                          refine hr1 rfl rfl rfl (ev_move rfl) rfl ?_
                          refine hr1 rfl rfl rfl (ev_fieldAddr 3 rfl Try.underlying64 rfl Try.sizeOf35) rfl ?_
                          refine hr1 rfl rfl rfl (ev_fieldAddr 3 rfl Try.underlying35 rfl Try.sizeOf2) rfl ?_
                          refine hr1 rfl rfl rfl (ev_load rfl Try.isAgg2 (by repeat first | exact .z | apply In.s) rfl) rfl ?_
                          refine hr1 rfl rfl rfl (ev_fieldAddr 2 rfl Try.underlying64 rfl Try.sizeOf3) rfl ?_
                          refine hr1 rfl rfl rfl (ev_load rfl Try.isAgg3 (by repeat first | exact .z | apply In.s) rfl) rfl ?_
                          refine hr1 rfl rfl rfl (ev_ixAddrA rfl rfl Try.underlying67 Try.sizeOf2 (by omega) (by omega)) rfl ?_
                          refine hr1 rfl rfl rfl (ev_load rfl Try.isAgg2 (by repeat first | exact .z | apply In.s) (loss_get p2)) rfl ?_
                          refine hr1 rfl rfl rfl (ev_gtr rfl rfl) rfl ?_
                          rw [show decide (S.W.f.loss a.fr < a.m.n) = true by simp; omega]
                          refine hr1 rfl rfl rfl (ev_pick0 rfl rfl) rfl ?_
                          refine hr rfl (ev_pick1 rfl rfl) rfl ?_
                          refine hnil ?_
                          refine y (ev_assign rfl) rfl ?_
                          refine hnoP' (kthn (hK31 _ _ ?_))
                          clear hK31
                          refine cseq ?_; intro K34 hK34
                          refine creg ?_
                          refine y (ev_move rfl) rfl ?_
                          refine y (ev_not rfl) rfl ?_
                          rw [show (!w71.1.2) = false by rw [his]; rfl]
                          refine y (ev_move rfl) rfl ?_
                          refine yg1 rfl rfl ?_
                          refine y (ev_move rfl) rfl ?_
                          refine yg1 rfl rfl ?_
                          refine y (ev_not rfl) rfl ?_
                          refine yg1 rfl rfl ?_
                          refine y (ev_move rfl) rfl ?_
                          refine yg1 rfl rfl ?_
                          refine y (ev_move rfl) rfl ?_
                          refine yg1 rfl rfl ?_
                          refine y (ev_not rfl) rfl ?_
                          refine yg1 rfl rfl ?_
                          refine y (ev_pick1 rfl rfl) rfl ?_
                          refine y (ev_pick0 rfl rfl) rfl ?_
                          refine ynil' (kthn (hK34 _ _ ?_))
                          clear hK34
                          refine ccond0 rfl ?_
                          refine cskip' (kthn ?_)
                          exact ksub (by repeat first | exact sub_nil | refine sub_cons rfl ?_ | refine sub_cons' rfl (by simp) ?_) (by repeat first | exact .refl | exact .nil | exact .z | apply Pk.s | refine Ge.e ?_ | apply Ge.pick | apply Ge.drop) (hJr22 0 trivial)
                    · (try simp only [decide_eq_true_eq, beq_iff_eq, beq_eq_false_iff_ne, decide_eq_decide, decide_eq_false_iff_not, Bool.not_eq_true', Bool.not_eq_false', Bool.not_eq_true, Bool.not_eq_false, Bool.not_not, ne_eq, Option.isNone_some, Option.isSome_some, Option.isNone_none, Option.isSome_none] at h207)
                      refine cskip' (kthn ?_)
                      exact ksub (by repeat first | exact sub_nil | refine sub_cons rfl ?_ | refine sub_cons' rfl (by simp) ?_) (by repeat first | exact .refl | exact .nil | exact .z | apply Pk.s | refine Ge.e ?_ | apply Ge.pick | apply Ge.drop) (hJr22 0 trivial)
                  · (try simp only [decide_eq_true_eq, beq_iff_eq, beq_eq_false_iff_ne, decide_eq_decide, decide_eq_false_iff_not, Bool.not_eq_true', Bool.not_eq_false', Bool.not_eq_true, Bool.not_eq_false, Bool.not_not, ne_eq, Option.isNone_some, Option.isSome_some, Option.isNone_none, Option.isSome_none] at h94)
                    refine yg0 rfl rfl rfl rfl ?_
                    refine yg0 rfl rfl rfl rfl ?_
                    refine yg0 rfl rfl rfl rfl ?_
                    refine yg0 rfl rfl rfl rfl ?_
                    refine yg1 rfl rfl ?_
                    refine y (ev_pick0 rfl rfl) rfl ?_
                    refine y (ev_pick0 rfl rfl) rfl ?_
                    refine ynil' (kthn (hK22 _ _ ?_))
                    clear hK22
                    refine ccond0 rfl ?_
                    refine cskip' (kthn (hK21 _ _ ?_))
                    clear hK21
                    refine cseq ?_; intro K35 hK35
                    have hJr22 : ∀ x : Nat, (True) → Sk 210 K35 ([(14, i64 S71.W.f.mask), (13, .bool w71.1.2), (12, ptr b12), (11, i64 S.W.f.epoch), (10, i64 S.W.f.holder), (9, i64 S.W.f.mask), (8, ptr b8), (7, i64 k), (6, ptr b6), (5, ptr l20), (1, av)]) ([sc b12 w71.1.1.cells 35, sc b8 a.cells 64, sc b6 [i64 S.W.f.l0, i64 S.W.f.l1] 67, lifeP l20 q20 (ptr S71.s) (wt % 20 + 1) mb20 false, ownM mb20 S71.kv S71.n, witP S71.s S71.c S71.W, celP S71.c q20 S71.W.c, dev q20 S71.D] ++ R) := by
                      rintro x hIr22
                      refine hK35 _ _ ?_
                      refine cseq ?_; intro K36 hK36
                      have hJr24 : ∀ x : Nat, (True) → Sk 210 K36 ([(14, i64 S71.W.f.mask), (13, .bool w71.1.2), (12, ptr b12), (11, i64 S.W.f.epoch), (10, i64 S.W.f.holder), (9, i64 S.W.f.mask), (8, ptr b8), (7, i64 k), (6, ptr b6), (5, ptr l20), (1, av)]) ([sc b12 w71.1.1.cells 35, sc b8 a.cells 64, sc b6 [i64 S71.W.f.l0, i64 S71.W.f.l1] 67, lifeP l20 q20 (ptr S71.s) (wt % 20 + 1) mb20 false, ownM mb20 S71.kv S71.n, witP S71.s S71.c S71.W, celP S71.c q20 S71.W.c, dev q20 S71.D] ++ R) := by
                        rintro x hIr24
                        refine hK36 _ _ ?_
                        refine cseq ?_; intro K37 hK37
                        refine creg ?_
                        skip
                        · skip
                          refine y (ev_move rfl) rfl ?_
                          refine y (ev_move rfl) rfl ?_
                          refine ysplit 193 rfl (fun h343 => ?_) (fun h343 => ?_)
                          · (try simp only [decide_eq_true_eq, beq_iff_eq, beq_eq_false_iff_ne, decide_eq_decide, decide_eq_false_iff_not, Bool.not_eq_true', Bool.not_eq_false', Bool.not_eq_true, Bool.not_eq_false, Bool.not_not, ne_eq, Option.isNone_some, Option.isSome_some, Option.isNone_none, Option.isSome_none] at h343)
                            refine yg1 rfl rfl ?_
                            refine y (ev_fieldAddr 0 rfl Try.underlying35 rfl Try.sizeOf3) rfl ?_
                            refine yg1 rfl rfl ?_
                            refine y (ev_load rfl Try.isAgg3 (by repeat first | exact .z | apply In.s) rfl) rfl ?_
                            refine yg1 rfl rfl ?_
                            refine y (ev_eql rfl rfl) rfl ?_
                            refine y (ev_pick1 rfl rfl) rfl ?_
                            refine y (ev_move rfl) rfl ?_
                            refine ysplit 198 rfl (fun h349 => ?_) (fun h349 => ?_)
                            · (try simp only [decide_eq_true_eq, beq_iff_eq, beq_eq_false_iff_ne, decide_eq_decide, decide_eq_false_iff_not, Bool.not_eq_true', Bool.not_eq_false', Bool.not_eq_true, Bool.not_eq_false, Bool.not_not, ne_eq, Option.isNone_some, Option.isSome_some, Option.isNone_none, Option.isSome_none] at h349)
                              refine yg1 rfl rfl ?_
                              refine y (ev_fieldAddr 6 rfl Try.underlying35 rfl Try.sizeOf32) rfl ?_
                              refine yg1 rfl rfl ?_
                              refine y (ev_load rfl Try.isAgg32 (by repeat first | exact .z | apply In.s) rfl) rfl ?_
                              refine yg1 rfl rfl ?_
                              refine y (ev_eql rfl rfl) rfl ?_
                              refine y (ev_pick1 rfl rfl) rfl ?_
                              refine y (ev_move rfl) rfl ?_
                              refine ysplit 203 rfl (fun h355 => ?_) (fun h355 => ?_)
                              · (try simp only [decide_eq_true_eq, beq_iff_eq, beq_eq_false_iff_ne, decide_eq_decide, decide_eq_false_iff_not, Bool.not_eq_true', Bool.not_eq_false', Bool.not_eq_true, Bool.not_eq_false, Bool.not_not, ne_eq, Option.isNone_some, Option.isSome_some, Option.isNone_none, Option.isSome_none] at h355)
                                refine yg1 rfl rfl ?_
                                refine y (ev_move rfl) rfl ?_
                                refine yg1 rfl rfl ?_
                                refine y (ev_fieldAddr 2 rfl Try.underlying64 rfl Try.sizeOf3) rfl ?_
                                refine yg1 rfl rfl ?_
                                refine y (ev_load rfl Try.isAgg3 (by repeat first | exact .z | apply In.s) rfl) rfl ?_
                                refine yg1 rfl rfl ?_
                                refine ycall (refIn) rfl Try.call31 (by repeat first | exact .nil | exact .z | apply Pk.s | apply Tk.cons) rfl ?_
                                rintro v L' ⟨rfl, rfl⟩
                                have hgr := hMk.grant (grantB_of (by assumption) (by assumption) (by assumption))
                                rw [refInB_in hS.good.fok.mask hgr.2, hgr.1]
                                refine yg1 rfl rfl ?_
                                refine y (ev_not rfl) rfl ?_
                                refine y (ev_pick1 rfl rfl) rfl ?_
                                refine ynil' (kthn (hK37 _ _ ?_))
                                clear hK37
                                refine ccond0 rfl ?_
                                refine cskip' (kbn (kthn (hK11 _ _ ?_)))
                                clear hK11
                                refine creg ?_
                                refine y (ev_move rfl) rfl ?_
                                refine y (ev_add rfl rfl) rfl ?_
                                rw [show IntKind.i64.wrap ((k:Int) + 1) = ((k+1 : Nat) : Int) by rw [wr (by omega) (by omega)]; rfl]
                                refine y (ev_assign rfl) rfl ?_
                                refine ynil' (kthn ?_)
                                first
                                  | exact hL1 (k + 1, S71) ⟨hS71, by dsimp only; omega, by dsimp only; omega⟩ (by dsimp only; omega) _ _ (by repeat first | exact sub_nil | refine sub_cons rfl ?_ | refine sub_cons' rfl (by simp) ?_) (by repeat first | exact .refl | exact .nil | exact .z | apply Pk.s | refine Ge.e ?_ | apply Ge.pick | apply Ge.drop)
                                  | exact hL1 (k + 1, S) ⟨hS.up1, by dsimp only; omega, by dsimp only; omega⟩ (by dsimp only; omega) _ _ (by repeat first | exact sub_nil | refine sub_cons rfl ?_ | refine sub_cons' rfl (by simp) ?_) (by repeat first | exact .refl | exact .nil | exact .z | apply Pk.s | refine Ge.e ?_ | apply Ge.pick | apply Ge.drop)
                              · (try simp only [decide_eq_true_eq, beq_iff_eq, beq_eq_false_iff_ne, decide_eq_decide, decide_eq_false_iff_not, Bool.not_eq_true', Bool.not_eq_false', Bool.not_eq_true, Bool.not_eq_false, Bool.not_not, ne_eq, Option.isNone_some, Option.isSome_some, Option.isNone_none, Option.isSome_none] at h355)
                                refine yg0 rfl rfl rfl rfl ?_
                                refine yg0 rfl rfl rfl rfl ?_
                                refine yg0 rfl rfl rfl rfl ?_
                                refine yg0 rfl rfl rfl rfl ?_
                                refine yg0 rfl rfl rfl rfl ?_
                                refine y (ev_pick0 rfl rfl) rfl ?_
                                refine ynil' (kthn (hK37 _ _ ?_))
                                clear hK37
                                refine ccond0 rfl ?_
                                refine cskip' (kbn (kthn (hK11 _ _ ?_)))
                                clear hK11
                                refine creg ?_
                                refine y (ev_move rfl) rfl ?_
                                refine y (ev_add rfl rfl) rfl ?_
                                rw [show IntKind.i64.wrap ((k:Int) + 1) = ((k+1 : Nat) : Int) by rw [wr (by omega) (by omega)]; rfl]
                                refine y (ev_assign rfl) rfl ?_
                                refine ynil' (kthn ?_)
                                first
                                  | exact hL1 (k + 1, S71) ⟨hS71, by dsimp only; omega, by dsimp only; omega⟩ (by dsimp only; omega) _ _ (by repeat first | exact sub_nil | refine sub_cons rfl ?_ | refine sub_cons' rfl (by simp) ?_) (by repeat first | exact .refl | exact .nil | exact .z | apply Pk.s | refine Ge.e ?_ | apply Ge.pick | apply Ge.drop)
                                  | exact hL1 (k + 1, S) ⟨hS.up1, by dsimp only; omega, by dsimp only; omega⟩ (by dsimp only; omega) _ _ (by repeat first | exact sub_nil | refine sub_cons rfl ?_ | refine sub_cons' rfl (by simp) ?_) (by repeat first | exact .refl | exact .nil | exact .z | apply Pk.s | refine Ge.e ?_ | apply Ge.pick | apply Ge.drop)
                            · (try simp only [decide_eq_true_eq, beq_iff_eq, beq_eq_false_iff_ne, decide_eq_decide, decide_eq_false_iff_not, Bool.not_eq_true', Bool.not_eq_false', Bool.not_eq_true, Bool.not_eq_false, Bool.not_not, ne_eq, Option.isNone_some, Option.isSome_some, Option.isNone_none, Option.isSome_none] at h349)
                              refine yg0 rfl rfl rfl rfl ?_
                              refine yg0 rfl rfl rfl rfl ?_
                              refine yg0 rfl rfl rfl rfl ?_
                              refine y (ev_pick0 rfl rfl) rfl ?_
                              refine y (ev_move rfl) rfl ?_
                              refine yg0 rfl rfl rfl rfl ?_
                              refine yg0 rfl rfl rfl rfl ?_
                              refine yg0 rfl rfl rfl rfl ?_
                              refine yg0 rfl rfl rfl rfl ?_
                              refine yg0 rfl rfl rfl rfl ?_
                              refine y (ev_pick0 rfl rfl) rfl ?_
                              refine ynil' (kthn (hK37 _ _ ?_))
                              clear hK37
                              refine ccond0 rfl ?_
                              refine cskip' (kbn (kthn (hK11 _ _ ?_)))
                              clear hK11
                              refine creg ?_
                              refine y (ev_move rfl) rfl ?_
                              refine y (ev_add rfl rfl) rfl ?_
                              rw [show IntKind.i64.wrap ((k:Int) + 1) = ((k+1 : Nat) : Int) by rw [wr (by omega) (by omega)]; rfl]
                              refine y (ev_assign rfl) rfl ?_
                              refine ynil' (kthn ?_)
                              first
                                | exact hL1 (k + 1, S71) ⟨hS71, by dsimp only; omega, by dsimp only; omega⟩ (by dsimp only; omega) _ _ (by repeat first | exact sub_nil | refine sub_cons rfl ?_ | refine sub_cons' rfl (by simp) ?_) (by repeat first | exact .refl | exact .nil | exact .z | apply Pk.s | refine Ge.e ?_ | apply Ge.pick | apply Ge.drop)
                                | exact hL1 (k + 1, S) ⟨hS.up1, by dsimp only; omega, by dsimp only; omega⟩ (by dsimp only; omega) _ _ (by repeat first | exact sub_nil | refine sub_cons rfl ?_ | refine sub_cons' rfl (by simp) ?_) (by repeat first | exact .refl | exact .nil | exact .z | apply Pk.s | refine Ge.e ?_ | apply Ge.pick | apply Ge.drop)
                          · (try simp only [decide_eq_true_eq, beq_iff_eq, beq_eq_false_iff_ne, decide_eq_decide, decide_eq_false_iff_not, Bool.not_eq_true', Bool.not_eq_false', Bool.not_eq_true, Bool.not_eq_false, Bool.not_not, ne_eq, Option.isNone_some, Option.isSome_some, Option.isNone_none, Option.isSome_none] at h343)
                            refine yg0 rfl rfl rfl rfl ?_
                            refine yg0 rfl rfl rfl rfl ?_
                            refine yg0 rfl rfl rfl rfl ?_
                            refine y (ev_pick0 rfl rfl) rfl ?_
                            refine y (ev_move rfl) rfl ?_
                            refine yg0 rfl rfl rfl rfl ?_
                            refine yg0 rfl rfl rfl rfl ?_
                            refine yg0 rfl rfl rfl rfl ?_
                            refine y (ev_pick0 rfl rfl) rfl ?_
                            refine y (ev_move rfl) rfl ?_
                            refine yg0 rfl rfl rfl rfl ?_
                            refine yg0 rfl rfl rfl rfl ?_
                            refine yg0 rfl rfl rfl rfl ?_
                            refine yg0 rfl rfl rfl rfl ?_
                            refine yg0 rfl rfl rfl rfl ?_
                            refine y (ev_pick0 rfl rfl) rfl ?_
                            refine ynil' (kthn (hK37 _ _ ?_))
                            clear hK37
                            refine ccond0 rfl ?_
                            refine cskip' (kbn (kthn (hK11 _ _ ?_)))
                            clear hK11
                            refine creg ?_
                            refine y (ev_move rfl) rfl ?_
                            refine y (ev_add rfl rfl) rfl ?_
                            rw [show IntKind.i64.wrap ((k:Int) + 1) = ((k+1 : Nat) : Int) by rw [wr (by omega) (by omega)]; rfl]
                            refine y (ev_assign rfl) rfl ?_
                            refine ynil' (kthn ?_)
                            first
                              | exact hL1 (k + 1, S71) ⟨hS71, by dsimp only; omega, by dsimp only; omega⟩ (by dsimp only; omega) _ _ (by repeat first | exact sub_nil | refine sub_cons rfl ?_ | refine sub_cons' rfl (by simp) ?_) (by repeat first | exact .refl | exact .nil | exact .z | apply Pk.s | refine Ge.e ?_ | apply Ge.pick | apply Ge.drop)
                              | exact hL1 (k + 1, S) ⟨hS.up1, by dsimp only; omega, by dsimp only; omega⟩ (by dsimp only; omega) _ _ (by repeat first | exact sub_nil | refine sub_cons rfl ?_ | refine sub_cons' rfl (by simp) ?_) (by repeat first | exact .refl | exact .nil | exact .z | apply Pk.s | refine Ge.e ?_ | apply Ge.pick | apply Ge.drop)
                      clear hK36
                      refine cseq ?_; intro K38 hK38
                      refine creg ?_
                      refine y (ev_move rfl) rfl ?_
                      refine y (ev_move rfl) rfl ?_
                      refine ysplit 161 rfl (fun h385 => ?_) (fun h385 => ?_)
                      · (try simp only [decide_eq_true_eq, beq_iff_eq, beq_eq_false_iff_ne, decide_eq_decide, decide_eq_false_iff_not, Bool.not_eq_true', Bool.not_eq_false', Bool.not_eq_true, Bool.not_eq_false, Bool.not_not, ne_eq, Option.isNone_some, Option.isSome_some, Option.isNone_none, Option.isSome_none] at h385)
                        refine yg1 rfl rfl ?_
                        refine y (ev_fieldAddr 0 rfl Try.underlying35 rfl Try.sizeOf3) rfl ?_
                        refine yg1 rfl rfl ?_
                        refine y (ev_load rfl Try.isAgg3 (by repeat first | exact .z | apply In.s) rfl) rfl ?_
                        refine yg1 rfl rfl ?_
                        refine y (ev_eql rfl rfl) rfl ?_
                        refine y (ev_pick1 rfl rfl) rfl ?_
                        refine y (ev_move rfl) rfl ?_
                        refine ysplit 166 rfl (fun h391 => ?_) (fun h391 => ?_)
                        · (try simp only [decide_eq_true_eq, beq_iff_eq, beq_eq_false_iff_ne, decide_eq_decide, decide_eq_false_iff_not, Bool.not_eq_true', Bool.not_eq_false', Bool.not_eq_true, Bool.not_eq_false, Bool.not_not, ne_eq, Option.isNone_some, Option.isSome_some, Option.isNone_none, Option.isSome_none] at h391)
                          refine yg1 rfl rfl ?_
                          refine y (ev_fieldAddr 6 rfl Try.underlying35 rfl Try.sizeOf32) rfl ?_
                          refine yg1 rfl rfl ?_
                          refine y (ev_load rfl Try.isAgg32 (by repeat first | exact .z | apply In.s) rfl) rfl ?_
                          refine yg1 rfl rfl ?_
                          refine y (ev_eql rfl rfl) rfl ?_
                          refine y (ev_pick1 rfl rfl) rfl ?_
                          refine y (ev_move rfl) rfl ?_
                          refine ysplit 171 rfl (fun h397 => ?_) (fun h397 => ?_)
                          · (try simp only [decide_eq_true_eq, beq_iff_eq, beq_eq_false_iff_ne, decide_eq_decide, decide_eq_false_iff_not, Bool.not_eq_true', Bool.not_eq_false', Bool.not_eq_true, Bool.not_eq_false, Bool.not_not, ne_eq, Option.isNone_some, Option.isSome_some, Option.isNone_none, Option.isSome_none] at h397)
                            refine yg1 rfl rfl ?_
                            refine y (ev_fieldAddr 2 rfl Try.underlying64 rfl Try.sizeOf3) rfl ?_
                            refine yg1 rfl rfl ?_
                            refine y (ev_load rfl Try.isAgg3 (by repeat first | exact .z | apply In.s) rfl) rfl ?_
                            refine yg1 rfl rfl ?_
                            refine y (ev_eql rfl rfl) rfl ?_
                            refine yg1 rfl rfl ?_
                            refine y (ev_move rfl) rfl ?_
                            refine ysplit 175 rfl (fun h402 => ?_) (fun h402 => ?_)
                            · (try simp only [decide_eq_true_eq, beq_iff_eq, beq_eq_false_iff_ne, decide_eq_decide, decide_eq_false_iff_not, Bool.not_eq_true', Bool.not_eq_false', Bool.not_eq_true, Bool.not_eq_false, Bool.not_not, ne_eq, Option.isNone_some, Option.isSome_some, Option.isNone_none, Option.isSome_none] at h402)
                              refine yg0 rfl rfl rfl rfl ?_
                              refine yg0 rfl rfl rfl rfl ?_
                              refine yg0 rfl rfl rfl rfl ?_
                              refine yg1 rfl rfl ?_
                              refine y (ev_pick1 rfl rfl) rfl ?_
                              refine y (ev_pick1 rfl rfl) rfl ?_
                              refine ynil' (kthn (hK38 _ _ ?_))
                              clear hK38
                              refine ccond1 rfl ?_
                              refine cdraw 11 [(0, true), (1, true), (2, true), (3, true), (4, true), (5, true), (6, true), (7, true), (8, true), (9, true), (10, true)] (_) Try.mixed (by kernel_rfl) .refl ?_
                              refine hr rfl (ev_fieldAddr 2 rfl Try.underlying64 rfl Try.sizeOf3) rfl ?_
                              refine hr rfl (ev_load rfl Try.isAgg3 (by repeat first | exact .z | apply In.s) rfl) rfl ?_
                              refine hr rfl (ev_fieldAddr 2 rfl Try.underlying64 rfl Try.sizeOf3) rfl ?_
                              refine hr rfl (ev_load rfl Try.isAgg3 (by repeat first | exact .z | apply In.s) rfl) rfl ?_
                              refine hr rfl (ev_ixAddrA rfl rfl Try.underlying67 Try.sizeOf2 (by omega) (by omega)) rfl ?_
                              refine hr rfl (ev_load rfl Try.isAgg2 (by repeat first | exact .z | apply In.s) (loss_get (by omega))) rfl ?_
                              refine hr rfl (ev_fieldAddr 3 rfl Try.underlying64 rfl Try.sizeOf35) rfl ?_
                              refine hr rfl (ev_fieldAddr 3 rfl Try.underlying35 rfl Try.sizeOf2) rfl ?_
                              refine hr rfl (ev_load rfl Try.isAgg2 (by repeat first | exact .z | apply In.s) rfl) rfl ?_
                              refine hr rfl (ev_max rfl rfl) rfl ?_
                              rw [show (if a.m.n > S.W.f.loss a.fr then a.m.n else S.W.f.loss a.fr) = max (S.W.f.loss a.fr) a.m.n by split <;> omega]
                              refine hr rfl (ev_ixAddrA rfl rfl Try.underlying67 Try.sizeOf2 (by omega) (by omega)) rfl ?_
                              refine hnil ?_
                              refine ya0 (ac_store (vs' := [i64 S71.W.f.l0, i64 S71.W.f.l1]) rfl rfl rfl Try.sizeOf2 (by repeat first | exact .z | apply Rp.s) (by rcases (show a.fr = 0 ∨ a.fr = 1 by omega) with h | h <;> rw [h] <;> rfl) (loss_set hMk (by assumption) (by assumption) (by assumption) (by omega))) ?_
                              rintro v L' ⟨rfl, rfl⟩
                              refine hnoP' (kthn ?_)
                              first
                                | (have hls := loss_same hMk (by rintro ⟨p1, p2, p3, p4⟩; first | omega | exact absurd (p1.symm.trans (show w71.1.2 = false by assumption)) (by decide)); rw [← hls.1, ← hls.2]; exact ksub (by repeat first | exact sub_nil | refine sub_cons rfl ?_ | refine sub_cons' rfl (by simp) ?_) (by repeat first | exact .refl | exact .nil | exact .z | apply Pk.s | refine Ge.e ?_ | apply Ge.pick | apply Ge.drop) (hJr24 0 trivial))
                                | exact ksub (by repeat first | exact sub_nil | refine sub_cons rfl ?_ | refine sub_cons' rfl (by simp) ?_) (by repeat first | exact .refl | exact .nil | exact .z | apply Pk.s | refine Ge.e ?_ | apply Ge.pick | apply Ge.drop) (hJr24 0 trivial)
                            · (try simp only [decide_eq_true_eq, beq_iff_eq, beq_eq_false_iff_ne, decide_eq_decide, decide_eq_false_iff_not, Bool.not_eq_true', Bool.not_eq_false', Bool.not_eq_true, Bool.not_eq_false, Bool.not_not, ne_eq, Option.isNone_some, Option.isSome_some, Option.isNone_none, Option.isSome_none] at h402)
                              refine yg1 rfl rfl ?_
                              refine y (ev_fieldAddr 2 rfl Try.underlying64 rfl Try.sizeOf3) rfl ?_
                              refine yg1 rfl rfl ?_
                              refine y (ev_load rfl Try.isAgg3 (by repeat first | exact .z | apply In.s) rfl) rfl ?_
                              refine yg1 rfl rfl ?_
                              refine y (ev_eql rfl rfl) rfl ?_
                              refine yg1 rfl rfl ?_
                              refine y (ev_pick0 rfl rfl) rfl ?_
                              refine y (ev_pick1 rfl rfl) rfl ?_
                              refine ynil' (kthn (hK38 _ _ ?_))
                              clear hK38
                              refine ccond rfl (fun h422 => ?_) (fun h422 => ?_)
                              · (try simp only [decide_eq_true_eq, beq_iff_eq, beq_eq_false_iff_ne, decide_eq_decide, decide_eq_false_iff_not, Bool.not_eq_true', Bool.not_eq_false', Bool.not_eq_true, Bool.not_eq_false, Bool.not_not, ne_eq, Option.isNone_some, Option.isSome_some, Option.isNone_none, Option.isSome_none] at h422)
                                refine cdraw 11 [(0, true), (1, true), (2, true), (3, true), (4, true), (5, true), (6, true), (7, true), (8, true), (9, true), (10, true)] (_) Try.mixed (by kernel_rfl) .refl ?_
                                refine hr rfl (ev_fieldAddr 2 rfl Try.underlying64 rfl Try.sizeOf3) rfl ?_
                                refine hr rfl (ev_load rfl Try.isAgg3 (by repeat first | exact .z | apply In.s) rfl) rfl ?_
                                refine hr rfl (ev_fieldAddr 2 rfl Try.underlying64 rfl Try.sizeOf3) rfl ?_
                                refine hr rfl (ev_load rfl Try.isAgg3 (by repeat first | exact .z | apply In.s) rfl) rfl ?_
                                refine hr rfl (ev_ixAddrA rfl rfl Try.underlying67 Try.sizeOf2 (by omega) (by omega)) rfl ?_
                                refine hr rfl (ev_load rfl Try.isAgg2 (by repeat first | exact .z | apply In.s) (loss_get (by omega))) rfl ?_
                                refine hr rfl (ev_fieldAddr 3 rfl Try.underlying64 rfl Try.sizeOf35) rfl ?_
                                refine hr rfl (ev_fieldAddr 3 rfl Try.underlying35 rfl Try.sizeOf2) rfl ?_
                                refine hr rfl (ev_load rfl Try.isAgg2 (by repeat first | exact .z | apply In.s) rfl) rfl ?_
                                refine hr rfl (ev_max rfl rfl) rfl ?_
                                rw [show (if a.m.n > S.W.f.loss a.fr then a.m.n else S.W.f.loss a.fr) = max (S.W.f.loss a.fr) a.m.n by split <;> omega]
                                refine hr rfl (ev_ixAddrA rfl rfl Try.underlying67 Try.sizeOf2 (by omega) (by omega)) rfl ?_
                                refine hnil ?_
                                refine ya0 (ac_store (vs' := [i64 S71.W.f.l0, i64 S71.W.f.l1]) rfl rfl rfl Try.sizeOf2 (by repeat first | exact .z | apply Rp.s) (by rcases (show a.fr = 0 ∨ a.fr = 1 by omega) with h | h <;> rw [h] <;> rfl) (loss_set hMk (by assumption) (by assumption) (by assumption) (by omega))) ?_
                                rintro v L' ⟨rfl, rfl⟩
                                refine hnoP' (kthn ?_)
                                first
                                  | (have hls := loss_same hMk (by rintro ⟨p1, p2, p3, p4⟩; first | omega | exact absurd (p1.symm.trans (show w71.1.2 = false by assumption)) (by decide)); rw [← hls.1, ← hls.2]; exact ksub (by repeat first | exact sub_nil | refine sub_cons rfl ?_ | refine sub_cons' rfl (by simp) ?_) (by repeat first | exact .refl | exact .nil | exact .z | apply Pk.s | refine Ge.e ?_ | apply Ge.pick | apply Ge.drop) (hJr24 0 trivial))
                                  | exact ksub (by repeat first | exact sub_nil | refine sub_cons rfl ?_ | refine sub_cons' rfl (by simp) ?_) (by repeat first | exact .refl | exact .nil | exact .z | apply Pk.s | refine Ge.e ?_ | apply Ge.pick | apply Ge.drop) (hJr24 0 trivial)
                              · (try simp only [decide_eq_true_eq, beq_iff_eq, beq_eq_false_iff_ne, decide_eq_decide, decide_eq_false_iff_not, Bool.not_eq_true', Bool.not_eq_false', Bool.not_eq_true, Bool.not_eq_false, Bool.not_not, ne_eq, Option.isNone_some, Option.isSome_some, Option.isNone_none, Option.isSome_none] at h422)
                                refine cskip' (kthn ?_)
                                first
                                  | (have hls := loss_same hMk (by rintro ⟨p1, p2, p3, p4⟩; first | omega | exact absurd (p1.symm.trans (show w71.1.2 = false by assumption)) (by decide)); rw [← hls.1, ← hls.2]; exact ksub (by repeat first | exact sub_nil | refine sub_cons rfl ?_ | refine sub_cons' rfl (by simp) ?_) (by repeat first | exact .refl | exact .nil | exact .z | apply Pk.s | refine Ge.e ?_ | apply Ge.pick | apply Ge.drop) (hJr24 0 trivial))
                                  | exact ksub (by repeat first | exact sub_nil | refine sub_cons rfl ?_ | refine sub_cons' rfl (by simp) ?_) (by repeat first | exact .refl | exact .nil | exact .z | apply Pk.s | refine Ge.e ?_ | apply Ge.pick | apply Ge.drop) (hJr24 0 trivial)
                          · (try simp only [decide_eq_true_eq, beq_iff_eq, beq_eq_false_iff_ne, decide_eq_decide, decide_eq_false_iff_not, Bool.not_eq_true', Bool.not_eq_false', Bool.not_eq_true, Bool.not_eq_false, Bool.not_not, ne_eq, Option.isNone_some, Option.isSome_some, Option.isNone_none, Option.isSome_none] at h397)
                            refine yg0 rfl rfl rfl rfl ?_
                            refine yg0 rfl rfl rfl rfl ?_
                            refine yg0 rfl rfl rfl rfl ?_
                            refine yg0 rfl rfl rfl rfl ?_
                            refine yg0u rfl rfl rfl ?_
                            refine yg0u rfl rfl rfl ?_
                            refine yg0u rfl rfl rfl ?_
                            refine yg0 rfl rfl rfl rfl ?_
                            refine y (ev_pick0 rfl rfl) rfl ?_
                            refine ynil' (kthn (hK38 _ _ ?_))
                            clear hK38
                            refine ccond0 rfl ?_
                            refine cskip' (kthn ?_)
                            first
                              | (have hls := loss_same hMk (by rintro ⟨p1, p2, p3, p4⟩; first | omega | exact absurd (p1.symm.trans (show w71.1.2 = false by assumption)) (by decide)); rw [← hls.1, ← hls.2]; exact ksub (by repeat first | exact sub_nil | refine sub_cons rfl ?_ | refine sub_cons' rfl (by simp) ?_) (by repeat first | exact .refl | exact .nil | exact .z | apply Pk.s | refine Ge.e ?_ | apply Ge.pick | apply Ge.drop) (hJr24 0 trivial))
                              | exact ksub (by repeat first | exact sub_nil | refine sub_cons rfl ?_ | refine sub_cons' rfl (by simp) ?_) (by repeat first | exact .refl | exact .nil | exact .z | apply Pk.s | refine Ge.e ?_ | apply Ge.pick | apply Ge.drop) (hJr24 0 trivial)
                        · (try simp only [decide_eq_true_eq, beq_iff_eq, beq_eq_false_iff_ne, decide_eq_decide, decide_eq_false_iff_not, Bool.not_eq_true', Bool.not_eq_false', Bool.not_eq_true, Bool.not_eq_false, Bool.not_not, ne_eq, Option.isNone_some, Option.isSome_some, Option.isNone_none, Option.isSome_none] at h391)
                          refine yg0 rfl rfl rfl rfl ?_
                          refine yg0 rfl rfl rfl rfl ?_
                          refine yg0 rfl rfl rfl rfl ?_
                          refine y (ev_pick0 rfl rfl) rfl ?_
                          refine y (ev_move rfl) rfl ?_
                          refine yg0 rfl rfl rfl rfl ?_
                          refine yg0 rfl rfl rfl rfl ?_
                          refine yg0 rfl rfl rfl rfl ?_
                          refine yg0 rfl rfl rfl rfl ?_
                          refine yg0u rfl rfl rfl ?_
                          refine yg0u rfl rfl rfl ?_
                          refine yg0u rfl rfl rfl ?_
                          refine yg0 rfl rfl rfl rfl ?_
                          refine y (ev_pick0 rfl rfl) rfl ?_
                          refine ynil' (kthn (hK38 _ _ ?_))
                          clear hK38
                          refine ccond0 rfl ?_
                          refine cskip' (kthn ?_)
                          first
                            | (have hls := loss_same hMk (by rintro ⟨p1, p2, p3, p4⟩; first | omega | exact absurd (p1.symm.trans (show w71.1.2 = false by assumption)) (by decide)); rw [← hls.1, ← hls.2]; exact ksub (by repeat first | exact sub_nil | refine sub_cons rfl ?_ | refine sub_cons' rfl (by simp) ?_) (by repeat first | exact .refl | exact .nil | exact .z | apply Pk.s | refine Ge.e ?_ | apply Ge.pick | apply Ge.drop) (hJr24 0 trivial))
                            | exact ksub (by repeat first | exact sub_nil | refine sub_cons rfl ?_ | refine sub_cons' rfl (by simp) ?_) (by repeat first | exact .refl | exact .nil | exact .z | apply Pk.s | refine Ge.e ?_ | apply Ge.pick | apply Ge.drop) (hJr24 0 trivial)
                      · (try simp only [decide_eq_true_eq, beq_iff_eq, beq_eq_false_iff_ne, decide_eq_decide, decide_eq_false_iff_not, Bool.not_eq_true', Bool.not_eq_false', Bool.not_eq_true, Bool.not_eq_false, Bool.not_not, ne_eq, Option.isNone_some, Option.isSome_some, Option.isNone_none, Option.isSome_none] at h385)
                        refine yg0 rfl rfl rfl rfl ?_
                        refine yg0 rfl rfl rfl rfl ?_
                        refine yg0 rfl rfl rfl rfl ?_
                        refine y (ev_pick0 rfl rfl) rfl ?_
                        refine y (ev_move rfl) rfl ?_
                        refine yg0 rfl rfl rfl rfl ?_
                        refine yg0 rfl rfl rfl rfl ?_
                        refine yg0 rfl rfl rfl rfl ?_
                        refine y (ev_pick0 rfl rfl) rfl ?_
                        refine y (ev_move rfl) rfl ?_
                        refine yg0 rfl rfl rfl rfl ?_
                        refine yg0 rfl rfl rfl rfl ?_
                        refine yg0 rfl rfl rfl rfl ?_
                        refine yg0 rfl rfl rfl rfl ?_
                        refine yg0u rfl rfl rfl ?_
                        refine yg0u rfl rfl rfl ?_
                        refine yg0u rfl rfl rfl ?_
                        refine yg0 rfl rfl rfl rfl ?_
                        refine y (ev_pick0 rfl rfl) rfl ?_
                        refine ynil' (kthn (hK38 _ _ ?_))
                        clear hK38
                        refine ccond0 rfl ?_
                        refine cskip' (kthn ?_)
                        first
                          | (have hls := loss_same hMk (by rintro ⟨p1, p2, p3, p4⟩; first | omega | exact absurd (p1.symm.trans (show w71.1.2 = false by assumption)) (by decide)); rw [← hls.1, ← hls.2]; exact ksub (by repeat first | exact sub_nil | refine sub_cons rfl ?_ | refine sub_cons' rfl (by simp) ?_) (by repeat first | exact .refl | exact .nil | exact .z | apply Pk.s | refine Ge.e ?_ | apply Ge.pick | apply Ge.drop) (hJr24 0 trivial))
                          | exact ksub (by repeat first | exact sub_nil | refine sub_cons rfl ?_ | refine sub_cons' rfl (by simp) ?_) (by repeat first | exact .refl | exact .nil | exact .z | apply Pk.s | refine Ge.e ?_ | apply Ge.pick | apply Ge.drop) (hJr24 0 trivial)
                    clear hK35
                    refine cseq ?_; intro K39 hK39
                    refine creg ?_
                    refine y (ev_move rfl) rfl ?_
                    refine y (ev_move rfl) rfl ?_
                    refine y (ev_neq rfl rfl) rfl ?_
                    refine ynil' (kthn (hK39 _ _ ?_))
                    clear hK39
                    refine ccond rfl (fun h447 => ?_) (fun h447 => ?_)
                    · (try simp only [decide_eq_true_eq, beq_iff_eq, beq_eq_false_iff_ne, decide_eq_decide, decide_eq_false_iff_not, Bool.not_eq_true', Bool.not_eq_false', Bool.not_eq_true, Bool.not_eq_false, Bool.not_not, ne_eq, Option.isNone_some, Option.isSome_some, Option.isNone_none, Option.isSome_none] at h447)
                      have hne : S71.W.f.mask ≠ S.W.f.mask := by omega
                      have his := hMk.is hne
                      refine cseq ?_; intro K40 hK40
                      refine creg ?_
                      rcases hMk.turned hne with ⟨p1, p2, p3, p4⟩ | ⟨p1, p2, p3, p4⟩
                      · skip
                        refine y (ev_fieldAddr 3 rfl Try.underlying64 rfl Try.sizeOf35) rfl ?_
                        refine y (ev_fieldAddr 0 rfl Try.underlying35 rfl Try.sizeOf3) rfl ?_
                        refine y (ev_load rfl Try.isAgg3 (by repeat first | exact .z | apply In.s) rfl) rfl ?_
                        refine y (ev_eql rfl rfl) rfl ?_
                        first | rw [decide_eq_true p1] | rw [decide_eq_false (show ¬ a.m.kind = 3 by omega)]
                        refine y (ev_move rfl) rfl ?_
                        refine yg1 rfl rfl ?_
                        refine y (ev_fieldAddr 2 rfl Try.underlying64 rfl Try.sizeOf3) rfl ?_
                        refine yg1 rfl rfl ?_
                        refine y (ev_load rfl Try.isAgg3 (by repeat first | exact .z | apply In.s) rfl) rfl ?_
                        refine yg1 rfl rfl ?_
                        refine y (ev_move rfl) rfl ?_
                        refine yg1 rfl rfl ?_
                        refine y (ev_eql rfl rfl) rfl ?_
                        rw [show decide (a.fr = S.W.f.holder) = true by simp [p2]]
                        refine y (ev_pick1 rfl rfl) rfl ?_
                        refine y (ev_move rfl) rfl ?_
                        refine yg1 rfl rfl ?_
                        refine y (ev_fieldAddr 3 rfl Try.underlying64 rfl Try.sizeOf35) rfl ?_
                        refine yg1 rfl rfl ?_
                        refine y (ev_fieldAddr 1 rfl Try.underlying35 rfl Try.sizeOf2) rfl ?_
                        refine yg1 rfl rfl ?_
                        refine y (ev_load rfl Try.isAgg2 (by repeat first | exact .z | apply In.s) rfl) rfl ?_
                        refine yg1 rfl rfl ?_
                        refine y (ev_move rfl) rfl ?_
                        refine yg1 rfl rfl ?_
                        refine y (ev_eql rfl rfl) rfl ?_
                        rw [show decide (a.m.epoch = S.W.f.epoch) = true by simp [p3]]
                        refine y (ev_pick1 rfl rfl) rfl ?_
                        refine y (ev_move rfl) rfl ?_
                        refine yg1 rfl rfl ?_
                        refine y (ev_fieldAddr 6 rfl Try.underlying35 rfl Try.sizeOf32) rfl ?_
                        refine yg1 rfl rfl ?_
                        refine y (ev_load rfl Try.isAgg32 (by repeat first | exact .z | apply In.s) rfl) rfl ?_
                        refine yg1 rfl rfl ?_
                        refine y (ev_eql rfl rfl) rfl ?_
                        rw [show decide (w71.1.1.e = 0) = true by simp [p4]]
                        refine y (ev_pick1 rfl rfl) rfl ?_
                        refine y (ev_assign rfl) rfl ?_
                        refine ynil' (kthn (hK40 _ _ ?_))
                        clear hK40
                        refine cseq ?_; intro K41 hK41
                        refine cdraw 31 [(0, true), (1, true), (2, true), (3, true), (4, true), (5, true), (6, true), (7, true), (8, false), (9, true), (10, true), (11, true), (12, true), (13, true), (14, true), (15, true), (16, true), (17, true), (18, true), (19, true), (20, true), (21, true), (22, true), (23, true), (24, true), (25, true), (26, true), (27, true), (28, true), (29, true), (30, true)] ([sc b8 a.cells 64, sc b6 [i64 S.W.f.l0, i64 S.W.f.l1] 67] ++ R) Try.mixed (by kernel_rfl) (by repeat first | exact .refl | exact .nil | exact .z | apply Pk.s | refine Ge.e ?_ | apply Ge.pick | apply Ge.drop) ?_
                        refine hr rfl (ev_fieldAddr 3 rfl Try.underlying64 rfl Try.sizeOf35) rfl ?_
                        refine hr rfl (ev_fieldAddr 0 rfl Try.underlying35 rfl Try.sizeOf3) rfl ?_
                        refine hr rfl (ev_load rfl Try.isAgg3 (by repeat first | exact .z | apply In.s) rfl) rfl ?_
                        refine hr rfl (ev_eql rfl rfl) rfl ?_
                        first | rw [decide_eq_true p1] | rw [decide_eq_false (show ¬ a.m.kind = 4 by omega)]
                        refine hr rfl (ev_move rfl) rfl ?_
                        refine hr0 rfl rfl rfl rfl rfl ?_
                        refine hr0 rfl rfl rfl rfl rfl ?_
                        refine hr0 rfl rfl rfl rfl rfl ?_
                        refine ha0 rfl rfl rfl rfl rfl (by repeat first | exact .refl | exact .nil | exact .z | apply Pk.s | refine Ge.e ?_ | apply Ge.pick | apply Ge.drop) ?_
                        refine hr0 rfl rfl rfl rfl rfl ?_
                        refine hr rfl (ev_pick0 rfl rfl) rfl ?_
                        refine hr rfl (ev_move rfl) rfl ?_
                        refine hr0 rfl rfl rfl rfl rfl ?_
                        refine hr0 rfl rfl rfl rfl rfl ?_
                        refine hr0 rfl rfl rfl rfl rfl ?_
                        refine hr0 rfl rfl rfl rfl rfl ?_
                        refine hr0u rfl rfl rfl rfl ?_
                        refine hr0u rfl rfl rfl rfl ?_
                        refine hr0u rfl rfl rfl rfl ?_
                        refine hr0 rfl rfl rfl rfl rfl ?_
                        refine hr0 rfl rfl rfl rfl rfl ?_
                        refine hr0u rfl rfl rfl rfl ?_
                        refine hr0u rfl rfl rfl rfl ?_
                        refine hr0u rfl rfl rfl rfl ?_
                        refine hr0u rfl rfl rfl rfl ?_
                        refine hr0u rfl rfl rfl rfl ?_
                        refine hr0u rfl rfl rfl rfl ?_
                        refine hr0u rfl rfl rfl rfl ?_
                        refine hr0u rfl rfl rfl rfl ?_
                        refine hr0 rfl rfl rfl rfl rfl ?_
                        refine hr rfl (ev_pick0 rfl rfl) rfl ?_
                        refine hnil ?_
                        refine y (ev_assign rfl) rfl ?_
                        refine hnoP' (kthn (hK41 _ _ ?_))
                        clear hK41
                        refine cseq ?_; intro K42 hK42
                        refine creg ?_
                        refine y (ev_move rfl) rfl ?_
                        refine y (ev_not rfl) rfl ?_
                        rw [show (!w71.1.2) = false by rw [his]; rfl]
                        refine y (ev_move rfl) rfl ?_
                        refine yg1 rfl rfl ?_
                        refine y (ev_move rfl) rfl ?_
                        refine yg1 rfl rfl ?_
                        refine y (ev_not rfl) rfl ?_
                        refine yg1 rfl rfl ?_
                        refine y (ev_move rfl) rfl ?_
                        refine yg0 rfl rfl rfl rfl ?_
                        refine yg0 rfl rfl rfl rfl ?_
                        refine yg1 rfl rfl ?_
                        refine y (ev_pick0 rfl rfl) rfl ?_
                        refine y (ev_pick0 rfl rfl) rfl ?_
                        refine ynil' (kthn (hK42 _ _ ?_))
                        clear hK42
                        refine ccond0 rfl ?_
                        refine cskip' (kthn ?_)
                        exact ksub (by repeat first | exact sub_nil | refine sub_cons rfl ?_ | refine sub_cons' rfl (by simp) ?_) (by repeat first | exact .refl | exact .nil | exact .z | apply Pk.s | refine Ge.e ?_ | apply Ge.pick | apply Ge.drop) (hJr22 0 trivial)
                      · skip
                        refine y (ev_fieldAddr 3 rfl Try.underlying64 rfl Try.sizeOf35) rfl ?_
                        refine y (ev_fieldAddr 0 rfl Try.underlying35 rfl Try.sizeOf3) rfl ?_
                        refine y (ev_load rfl Try.isAgg3 (by repeat first | exact .z | apply In.s) rfl) rfl ?_
                        refine y (ev_eql rfl rfl) rfl ?_
                        first | rw [decide_eq_true p1] | rw [decide_eq_false (show ¬ a.m.kind = 3 by omega)]
                        refine y (ev_move rfl) rfl ?_
                        refine yg0 rfl rfl rfl rfl ?_
                        refine yg0 rfl rfl rfl rfl ?_
                        refine yg0 rfl rfl rfl rfl ?_
                        refine yg0 rfl rfl rfl rfl ?_
                        refine y (ev_pick0 rfl rfl) rfl ?_
                        refine y (ev_move rfl) rfl ?_
                        refine yg0 rfl rfl rfl rfl ?_
                        refine yg0 rfl rfl rfl rfl ?_
                        refine yg0 rfl rfl rfl rfl ?_
                        refine yg0 rfl rfl rfl rfl ?_
                        refine yg0 rfl rfl rfl rfl ?_
                        refine y (ev_pick0 rfl rfl) rfl ?_
                        refine y (ev_move rfl) rfl ?_
                        refine yg0 rfl rfl rfl rfl ?_
                        refine yg0 rfl rfl rfl rfl ?_
                        refine yg0 rfl rfl rfl rfl ?_
                        refine y (ev_pick0 rfl rfl) rfl ?_
                        refine y (ev_assign rfl) rfl ?_
                        refine ynil' (kthn (hK40 _ _ ?_))
                        clear hK40
                        refine cseq ?_; intro K43 hK43
                        refine cdraw 31 [(0, true), (1, true), (2, true), (3, true), (4, true), (5, true), (6, true), (7, true), (8, false), (9, true), (10, true), (11, true), (12, true), (13, true), (14, true), (15, true), (16, true), (17, true), (18, true), (19, true), (20, true), (21, true), (22, true), (23, true), (24, true), (25, true), (26, true), (27, true), (28, true), (29, true), (30, true)] ([sc b8 a.cells 64, sc b6 [i64 S.W.f.l0, i64 S.W.f.l1] 67] ++ R) Try.mixed (by kernel_rfl) (by repeat first | exact .refl | exact .nil | exact .z | apply Pk.s | refine Ge.e ?_ | apply Ge.pick | apply Ge.drop) ?_
                        refine hr rfl (ev_fieldAddr 3 rfl Try.underlying64 rfl Try.sizeOf35) rfl ?_
                        refine hr rfl (ev_fieldAddr 0 rfl Try.underlying35 rfl Try.sizeOf3) rfl ?_
                        refine hr rfl (ev_load rfl Try.isAgg3 (by repeat first | exact .z | apply In.s) rfl) rfl ?_
                        refine hr rfl (ev_eql rfl rfl) rfl ?_
                        first | rw [decide_eq_true p1] | rw [decide_eq_false (show ¬ a.m.kind = 4 by omega)]
                        refine hr rfl (ev_move rfl) rfl ?_
                        refine hr1 rfl rfl rfl (ev_move rfl) rfl ?_
                        refine hr1 rfl rfl rfl (ev_fieldAddr 2 rfl Try.underlying64 rfl Try.sizeOf3) rfl ?_
                        refine hr1 rfl rfl rfl (ev_load rfl Try.isAgg3 (by repeat first | exact .z | apply In.s) rfl) rfl ?_
                        refine hcall1 rfl rfl rfl (refIn) rfl Try.call31 (by repeat first | exact .nil | exact .z | apply Pk.s | apply Tk.cons) rfl ?_
                        rintro v L' ⟨rfl, rfl⟩; refine ⟨(by repeat first | exact .refl | exact .nil | exact .z | apply Pk.s | refine Ge.e ?_ | apply Ge.pick | apply Ge.drop), ?_⟩
                        rw [refInB_in hMk.rng p2, p3]
                        refine hr1 rfl rfl rfl (ev_not rfl) rfl ?_
                        refine hr rfl (ev_pick1 rfl rfl) rfl ?_
                        refine hr rfl (ev_move rfl) rfl ?_
                        refine hr1 rfl rfl rfl (ev_fieldAddr 2 rfl Try.underlying64 rfl Try.sizeOf3) rfl ?_
                        refine hr1 rfl rfl rfl (ev_load rfl Try.isAgg3 (by repeat first | exact .z | apply In.s) rfl) rfl ?_
                        refine hr1 rfl rfl rfl (ev_neq rfl rfl) rfl ?_
                        refine hr1 rfl rfl rfl (ev_move rfl) rfl ?_
                        refine hsplit 134 rfl (fun h515 => ?_) (fun h515 => ?_)
                        · (try simp only [decide_eq_true_eq, beq_iff_eq, beq_eq_false_iff_ne, decide_eq_decide, decide_eq_false_iff_not, Bool.not_eq_true', Bool.not_eq_false', Bool.not_eq_true, Bool.not_eq_false, Bool.not_not, ne_eq, Option.isNone_some, Option.isSome_some, Option.isNone_none, Option.isSome_none] at h515)
                          refine hr1 rfl rfl rfl (ev_fieldAddr 2 rfl Try.underlying64 rfl Try.sizeOf3) rfl ?_
                          refine hr1 rfl rfl rfl (ev_load rfl Try.isAgg3 (by repeat first | exact .z | apply In.s) rfl) rfl ?_
                          refine hr1 rfl rfl rfl (ev_neq rfl rfl) rfl ?_
                          refine hr1 rfl rfl rfl (ev_pick1 rfl rfl) rfl ?_
                          refine hr1 rfl rfl rfl (ev_move rfl) rfl ?_
                          refine hsplit 139 rfl (fun h521 => ?_) (fun h521 => ?_)
                          · (try simp only [decide_eq_true_eq, beq_iff_eq, beq_eq_false_iff_ne, decide_eq_decide, decide_eq_false_iff_not, Bool.not_eq_true', Bool.not_eq_false', Bool.not_eq_true, Bool.not_eq_false, Bool.not_not, ne_eq, Option.isNone_some, Option.isSome_some, Option.isNone_none, Option.isSome_none] at h521)
                            refine hr0 rfl rfl rfl rfl rfl ?_
                            refine hr0 rfl rfl rfl rfl rfl ?_
                            refine hr0 rfl rfl rfl rfl rfl ?_
                            refine hr0 rfl rfl rfl rfl rfl ?_
                            refine hr0 rfl rfl rfl rfl rfl ?_
                            refine hr0 rfl rfl rfl rfl rfl ?_
                            refine hr0 rfl rfl rfl rfl rfl ?_
                            refine hr0 rfl rfl rfl rfl rfl ?_
                            refine hr1 rfl rfl rfl (ev_pick1 rfl rfl) rfl ?_
                            refine hr rfl (ev_pick1 rfl rfl) rfl ?_
                            refine hnil ?_
                            refine y (ev_assign rfl) rfl ?_
                            refine hnoP' (kthn (hK43 _ _ ?_))
                            clear hK43
                            refine cseq ?_; intro K44 hK44
                            refine creg ?_
                            refine y (ev_move rfl) rfl ?_
                            refine y (ev_not rfl) rfl ?_
                            rw [show (!w71.1.2) = false by rw [his]; rfl]
                            refine y (ev_move rfl) rfl ?_
                            refine yg1 rfl rfl ?_
                            refine y (ev_move rfl) rfl ?_
                            refine yg1 rfl rfl ?_
                            refine y (ev_not rfl) rfl ?_
                            refine yg1 rfl rfl ?_
                            refine y (ev_move rfl) rfl ?_
                            refine yg1 rfl rfl ?_
                            refine y (ev_move rfl) rfl ?_
                            refine yg1 rfl rfl ?_
                            refine y (ev_not rfl) rfl ?_
                            refine yg1 rfl rfl ?_
                            refine y (ev_pick1 rfl rfl) rfl ?_
                            refine y (ev_pick0 rfl rfl) rfl ?_
                            refine ynil' (kthn (hK44 _ _ ?_))
                            clear hK44
                            refine ccond0 rfl ?_
                            refine cskip' (kthn ?_)
                            exact ksub (by repeat first | exact sub_nil | refine sub_cons rfl ?_ | refine sub_cons' rfl (by simp) ?_) (by repeat first | exact .refl | exact .nil | exact .z | apply Pk.s | refine Ge.e ?_ | apply Ge.pick | apply Ge.drop) (hJr22 0 trivial)
                          · (try simp only [decide_eq_true_eq, beq_iff_eq, beq_eq_false_iff_ne, decide_eq_decide, decide_eq_false_iff_not, Bool.not_eq_true', Bool.not_eq_false', Bool.not_eq_true, Bool.not_eq_false, Bool.not_not, ne_eq, Option.isNone_some, Option.isSome_some, Option.isNone_none, Option.isSome_none] at h521)
                            refine hr1 rfl rfl rfl (ev_fieldAddr 3 rfl Try.underlying64 rfl Try.sizeOf35) rfl ?_
                            refine hr1 rfl rfl rfl (ev_fieldAddr 3 rfl Try.underlying35 rfl Try.sizeOf2) rfl ?_
                            refine hr1 rfl rfl rfl (ev_load rfl Try.isAgg2 (by repeat first | exact .z | apply In.s) rfl) rfl ?_
                            refine hr1 rfl rfl rfl (ev_fieldAddr 2 rfl Try.underlying64 rfl Try.sizeOf3) rfl ?_
                            refine hr1 rfl rfl rfl (ev_load rfl Try.isAgg3 (by repeat first | exact .z | apply In.s) rfl) rfl ?_
                            refine hr1 rfl rfl rfl (ev_ixAddrA rfl rfl Try.underlying67 Try.sizeOf2 (by omega) (by omega)) rfl ?_
                            refine hr1 rfl rfl rfl (ev_load rfl Try.isAgg2 (by repeat first | exact .z | apply In.s) (loss_get p2)) rfl ?_
                            refine hr1 rfl rfl rfl (ev_gtr rfl rfl) rfl ?_
                            rw [show decide (S.W.f.loss a.fr < a.m.n) = true by simp; omega]
                            refine hr1 rfl rfl rfl (ev_pick0 rfl rfl) rfl ?_
                            refine hr rfl (ev_pick1 rfl rfl) rfl ?_
                            refine hnil ?_
                            refine y (ev_assign rfl) rfl ?_
                            refine hnoP' (kthn (hK43 _ _ ?_))
                            clear hK43
                            refine cseq ?_; intro K45 hK45
                            refine creg ?_
                            refine y (ev_move rfl) rfl ?_
                            refine y (ev_not rfl) rfl ?_
                            rw [show (!w71.1.2) = false by rw [his]; rfl]
                            refine y (ev_move rfl) rfl ?_
                            refine yg1 rfl rfl ?_
                            refine y (ev_move rfl) rfl ?_
                            refine yg1 rfl rfl ?_
                            refine y (ev_not rfl) rfl ?_
                            refine yg1 rfl rfl ?_
                            refine y (ev_move rfl) rfl ?_
                            refine yg1 rfl rfl ?_
                            refine y (ev_move rfl) rfl ?_
                            refine yg1 rfl rfl ?_
                            refine y (ev_not rfl) rfl ?_
                            refine yg1 rfl rfl ?_
                            refine y (ev_pick1 rfl rfl) rfl ?_
                            refine y (ev_pick0 rfl rfl) rfl ?_
                            refine ynil' (kthn (hK45 _ _ ?_))
                            clear hK45
                            refine ccond0 rfl ?_
                            refine cskip' (kthn ?_)
                            exact ksub (by repeat first | exact sub_nil | refine sub_cons rfl ?_ | refine sub_cons' rfl (by simp) ?_) (by repeat first | exact .refl | exact .nil | exact .z | apply Pk.s | refine Ge.e ?_ | apply Ge.pick | apply Ge.drop) (hJr22 0 trivial)
                        · (try simp only [decide_eq_true_eq, beq_iff_eq, beq_eq_false_iff_ne, decide_eq_decide, decide_eq_false_iff_not, Bool.not_eq_true', Bool.not_eq_false', Bool.not_eq_true, Bool.not_eq_false, Bool.not_not, ne_eq, Option.isNone_some, Option.isSome_some, Option.isNone_none, Option.isSome_none] at h515)
                          refine hr0 rfl rfl rfl rfl rfl ?_
                          refine hr0 rfl rfl rfl rfl rfl ?_
                          refine hr0 rfl rfl rfl rfl rfl ?_
                          refine hr1 rfl rfl rfl (ev_pick0 rfl rfl) rfl ?_
                          refine hr1 rfl rfl rfl (ev_move rfl) rfl ?_
                          refine hr1 rfl rfl rfl (ev_fieldAddr 3 rfl Try.underlying64 rfl Try.sizeOf35) rfl ?_
                          refine hr1 rfl rfl rfl (ev_fieldAddr 3 rfl Try.underlying35 rfl Try.sizeOf2) rfl ?_
                          refine hr1 rfl rfl rfl (ev_load rfl Try.isAgg2 (by repeat first | exact .z | apply In.s) rfl) rfl ?_
                          refine hr1 rfl rfl rfl (ev_fieldAddr 2 rfl Try.underlying64 rfl Try.sizeOf3) rfl ?_
                          refine hr1 rfl rfl rfl (ev_load rfl Try.isAgg3 (by repeat first | exact .z | apply In.s) rfl) rfl ?_
                          refine hr1 rfl rfl rfl (ev_ixAddrA rfl rfl Try.underlying67 Try.sizeOf2 (by omega) (by omega)) rfl ?_
                          refine hr1 rfl rfl rfl (ev_load rfl Try.isAgg2 (by repeat first | exact .z | apply In.s) (loss_get p2)) rfl ?_
                          refine hr1 rfl rfl rfl (ev_gtr rfl rfl) rfl ?_
                          rw [show decide (S.W.f.loss a.fr < a.m.n) = true by simp; omega]
                          refine hr1 rfl rfl rfl (ev_pick0 rfl rfl) rfl ?_
                          refine hr rfl (ev_pick1 rfl rfl) rfl ?_
                          refine hnil ?_
                          refine y (ev_assign rfl) rfl ?_
                          refine hnoP' (kthn (hK43 _ _ ?_))
                          clear hK43
                          refine cseq ?_; intro K46 hK46
                          refine creg ?_
                          refine y (ev_move rfl) rfl ?_
                          refine y (ev_not rfl) rfl ?_
                          rw [show (!w71.1.2) = false by rw [his]; rfl]
                          refine y (ev_move rfl) rfl ?_
                          refine yg1 rfl rfl ?_
                          refine y (ev_move rfl) rfl ?_
                          refine yg1 rfl rfl ?_
                          refine y (ev_not rfl) rfl ?_
                          refine yg1 rfl rfl ?_
                          refine y (ev_move rfl) rfl ?_
                          refine yg1 rfl rfl ?_
                          refine y (ev_move rfl) rfl ?_
                          refine yg1 rfl rfl ?_
                          refine y (ev_not rfl) rfl ?_
                          refine yg1 rfl rfl ?_
                          refine y (ev_pick1 rfl rfl) rfl ?_
                          refine y (ev_pick0 rfl rfl) rfl ?_
                          refine ynil' (kthn (hK46 _ _ ?_))
                          clear hK46
                          refine ccond0 rfl ?_
                          refine cskip' (kthn ?_)
                          exact ksub (by repeat first | exact sub_nil | refine sub_cons rfl ?_ | refine sub_cons' rfl (by simp) ?_) (by repeat first | exact .refl | exact .nil | exact .z | apply Pk.s | refine Ge.e ?_ | apply Ge.pick | apply Ge.drop) (hJr22 0 trivial)
                    · (try simp only [decide_eq_true_eq, beq_iff_eq, beq_eq_false_iff_ne, decide_eq_decide, decide_eq_false_iff_not, Bool.not_eq_true', Bool.not_eq_false', Bool.not_eq_true, Bool.not_eq_false, Bool.not_not, ne_eq, Option.isNone_some, Option.isSome_some, Option.isNone_none, Option.isSome_none] at h447)
                      refine cskip' (kthn ?_)
                      exact ksub (by repeat first | exact sub_nil | refine sub_cons rfl ?_ | refine sub_cons' rfl (by simp) ?_) (by repeat first | exact .refl | exact .nil | exact .z | apply Pk.s | refine Ge.e ?_ | apply Ge.pick | apply Ge.drop) (hJr22 0 trivial)
              clear hK18
              refine cdrawN 14 (.op 0 0 (.op 1 0 (.op 2 0 (.op 3 1 (.op 5 0 (.op 6 0 (.op 7 0 (.op 8 1 (.op 10 0 (.op 11 0 (.op 12 0 (.op 13 1 (.op 4 2 (.op 9 2 (.nil))))))))))))))) ([lifeP l20 q20 (ptr S.s) (wt % 20 + 1) mb20 false] ++ R) Try.mixed (by kernel_rfl) (by repeat first | exact .refl | exact .nil | exact .z | apply Pk.s | refine Ge.e ?_ | apply Ge.pick | apply Ge.drop) ?_
              refine nz rfl (ev_move rfl) rfl ?_
              refine nz rfl (ev_nil rfl) rfl ?_
              refine nz rfl (ev_fieldAddr 1 rfl Try.underlying31 rfl Try.sizeOf28) rfl ?_
              refine nr rfl (ev_load rfl Try.isAgg28 (by repeat first | exact .z | apply In.s) rfl) rfl ?_
              refine nz rfl (ev_move rfl) rfl ?_
              refine nz rfl (ev_nil rfl) rfl ?_
              refine nz rfl (ev_fieldAddr 1 rfl Try.underlying31 rfl Try.sizeOf28) rfl ?_
              refine nr rfl (ev_load rfl Try.isAgg28 (by repeat first | exact .z | apply In.s) rfl) rfl ?_
              refine nz rfl (ev_move rfl) rfl ?_
              refine nz rfl (ev_nil rfl) rfl ?_
              refine nz rfl (ev_fieldAddr 1 rfl Try.underlying31 rfl Try.sizeOf28) rfl ?_
              refine nr rfl (ev_load rfl Try.isAgg28 (by repeat first | exact .z | apply In.s) rfl) rfl ?_
              refine ncall rfl (wMask) rfl Try.call17 (by repeat first | exact .nil | exact .z | apply Pk.s | apply Tk.cons) rfl ?_
              rintro v L' ⟨rfl, rfl⟩; refine ⟨(by repeat first | exact .refl | exact .nil | exact .z | apply Pk.s | refine Ge.e ?_ | apply Ge.pick | apply Ge.drop), ?_⟩
              refine ncall rfl (wHolder) rfl Try.call19 (by repeat first | exact .nil | exact .z | apply Pk.s | apply Tk.cons) rfl ?_
              rintro v L' ⟨rfl, rfl⟩; refine ⟨(by repeat first | exact .refl | exact .nil | exact .z | apply Pk.s | refine Ge.e ?_ | apply Ge.pick | apply Ge.drop), ?_⟩
              refine nnil ?_
              refine ycall (wEpoch) rfl Try.call18 (by repeat first | exact .nil | exact .z | apply Pk.s | apply Tk.cons) rfl ?_
              rintro v L' ⟨rfl, rfl⟩
              refine y (ev_assign rfl) rfl ?_
              refine y (ev_assign rfl) rfl ?_
              refine y (ev_assign rfl) rfl ?_
              refine hnoP' (kthn ?_)
              exact ksub (by repeat first | exact sub_nil | refine sub_cons rfl ?_ | refine sub_cons' rfl (by simp) ?_) (by repeat first | exact .refl | exact .nil | exact .z | apply Pk.s | refine Ge.e ?_ | apply Ge.pick | apply Ge.drop) (hJr13 0 trivial)
      · (try simp only [decide_eq_true_eq, beq_iff_eq, beq_eq_false_iff_ne, decide_eq_decide, decide_eq_false_iff_not, Bool.not_eq_true', Bool.not_eq_false', Bool.not_eq_true, Bool.not_eq_false, Bool.not_not, ne_eq, Option.isNone_some, Option.isSome_some, Option.isNone_none, Option.isSome_none] at h40)
        refine cexit (kthx (kthx (kbx (kthn ?_))))
        exact ksub (by repeat first | exact sub_nil | refine sub_cons rfl ?_ | refine sub_cons' rfl (by simp) ?_) (by repeat first | exact .refl | exact .nil | exact .z | apply Pk.s | refine Ge.e ?_ | apply Ge.pick | apply Ge.drop) (hJ1 ⟨k, S⟩ ⟨hI1o, by first | trivial | omega⟩)
    · (try simp only [decide_eq_true_eq, beq_iff_eq, beq_eq_false_iff_ne, decide_eq_decide, decide_eq_false_iff_not, Bool.not_eq_true', Bool.not_eq_false', Bool.not_eq_true, Bool.not_eq_false, Bool.not_not, ne_eq, Option.isNone_some, Option.isSome_some, Option.isNone_none, Option.isSome_none] at h36)
      refine yg0 rfl rfl rfl rfl ?_
      refine yg0 rfl rfl rfl rfl ?_
      refine y (ev_pick0 rfl rfl) rfl ?_
      refine ynil' (kthn (hK10 _ _ ?_))
      clear hK10
      refine ccond0 rfl ?_
      refine cexit (kthx (kthx (kbx (kthn ?_))))
      exact ksub (by repeat first | exact sub_nil | refine sub_cons rfl ?_ | refine sub_cons' rfl (by simp) ?_) (by repeat first | exact .refl | exact .nil | exact .z | apply Pk.s | refine Ge.e ?_ | apply Ge.pick | apply Ge.drop) (hJ1 ⟨k, S⟩ ⟨hI1o, by first | trivial | omega⟩)
end W
end Go.Proofs
