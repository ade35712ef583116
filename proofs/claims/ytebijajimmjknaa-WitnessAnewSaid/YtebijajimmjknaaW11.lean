/- A part of the proof: contracts and plain lemmas, each without conditions beyond those that it names. -/
import Derived.Test.YtebijajimmjknaaW10
set_option linter.unusedVariables false
set_option linter.unusedSimpArgs false
set_option linter.constructorNameAsVariable false
namespace Go.Proofs
open Go Go.Sl
namespace W
set_option linter.unusedVariables false
theorem lawWitAnew [Env] {R : List Seg} {wt : Int} {av : Value} {acts : List ActW} (h0 : 0 ≤ wt ∧ wt ≤ 255) (hl : RdV R av acts.length (actwsV acts)) (haa : ∀ a ∈ acts, a.ok R) :
    Con Try.prog 10 [.int .u8 wt, av] [] R (Is (.bool true) []) := by
  have hG0 := good_new (wait := wt % 20 + 1) (by omega)
  obtain ⟨hf0, hl0, hw0⟩ := witO_new (wt % 20 + 1)
  have hi0 : OwnInv (fun _ => none) (witO (Dev.new 2) 0 1 (wt % 20 + 1)).f := by rw [hf0]; exact ownInv_first
  refine con_enter Try.func10 Try.ntmps10 rfl rfl ?_
  refine cseq ?_; intro K1 hK1
  refine creg ?_
  refine y (ev_assign rfl) rfl ?_
  refine ynil' (kthn (hK1 _ _ ?_))
  clear hK1
  refine cseq ?_; intro K2 hK2
  refine cseq ?_; intro K3 hK3
  refine creg ?_
  refine ycall (awake14) rfl Try.call13 (by repeat first | exact .nil | exact .z | apply Pk.s | apply Tk.cons) rfl ?_
  rintro v L' ⟨rfl, rfl⟩
  skip
  · skip
    refine y (ev_not rfl) rfl ?_
    refine ynil' (kthn (hK3 _ _ ?_))
    clear hK3
    refine ccond0 rfl ?_
    refine cskip' (kthn (hK2 _ _ ?_))
    clear hK2
    refine cseq ?_; intro K4 hK4
    refine creg ?_
    refine y (ev_move rfl) rfl ?_
    refine ycall (wBegin ?wt5) rfl Try.call14 (by repeat first | exact .nil | exact .z | apply Pk.s | apply Tk.cons) rfl ?_
    case wt5 => exact h0
    rintro v L' ⟨l12, q12, s12, c12, mb12, rfl, rfl⟩
    generalize witO (Dev.new 2) 0 1 (wt % 20 + 1) = W0 at *
    have hS0 : LsM.ok ⟨W0, Dev.new 2, [], 0, fun _ => none, s12, c12⟩ (wt % 20 + 1) 0 := ⟨hG0, hi0, own_nil, hw0⟩
    refine y (ev_assign rfl) rfl ?_
    refine ynil' (kthn (hK4 _ _ ?_))
    clear hK4
    refine cseq ?_; intro K5 hK5
    refine cseq ?_; intro K6 hK6
    refine creg ?_
    refine y (ev_assign rfl) rfl ?_
    refine ynil' (kthn (hK6 _ _ ?_))
    clear hK6
    have hJ1 : ∀ x : Nat × LsM, ((x.2.ok (wt % 20 + 1) x.1 ∧ x.1 ≤ acts.length ∧ x.1 ≤ 100) ∧ (True)) → Sk 109 K5 ([(6, i64 x.1), (5, ptr l12), (1, av)]) ([lifeP l12 q12 (ptr x.2.s) (wt % 20 + 1) mb12 false, ownM mb12 x.2.kv x.2.n, witP x.2.s x.2.c x.2.W, celP x.2.c q12 x.2.W.c, dev q12 x.2.D] ++ R) := by
      rintro ⟨k, S⟩ ⟨hI1, hX1⟩
      refine hK5 _ _ ?_
      obtain ⟨hS, hk1, hk2⟩ := hI1; dsimp only at hS hk1 hk2 ⊢
      refine cseq ?_; intro K7 hK7
      refine creg ?_
      refine y (ev_assign rfl) rfl ?_
      refine ynil' (kthn (hK7 _ _ ?_))
      clear hK7
      refine cret ?_
      first
        | (exfalso; omega; done)
        | (refine kretv Try.results10 rfl (L1 := R) (by repeat first | exact .refl | exact .nil | exact .z | apply Pk.s | refine Ge.e ?_ | apply Ge.pick | apply Ge.drop) ?_
           exact ⟨_, ⟨by rfl, rfl⟩, by rfl⟩)
    clear hK5
    refine cblock ?_
    refine cloop (A := Nat × LsM) (fun x => [(6, i64 x.1), (5, ptr l12), (1, av)]) (fun x => [lifeP l12 q12 (ptr x.2.s) (wt % 20 + 1) mb12 false, ownM mb12 x.2.kv x.2.n, witP x.2.s x.2.c x.2.W, celP x.2.c q12 x.2.W.c, dev q12 x.2.D] ++ R) (fun x => x.2.ok (wt % 20 + 1) x.1 ∧ x.1 ≤ acts.length ∧ x.1 ≤ 100) (fun x => acts.length - x.1) ((0, ⟨W0, Dev.new 2, [], 0, fun _ => none, s12, c12⟩)) ?_ (by repeat first | exact sub_nil | refine sub_cons rfl ?_ | refine sub_cons' rfl (by simp) ?_) (by repeat first | exact .refl | exact .nil | exact .z | apply Pk.s | refine Ge.e ?_ | apply Ge.pick | apply Ge.drop) ?_
    · exact ⟨hS0, Nat.zero_le _, Nat.zero_le _⟩
    rintro ⟨k, S⟩ hI1 KL1 hL1
    have hI1o := hI1
    obtain ⟨hS, hk1, hk2⟩ := hI1; dsimp only at hS hk1 hk2 ⊢
    refine cseq ?_; intro K8 hK8
    refine cseq ?_; intro K9 hK9
    refine creg ?_
    refine y (ev_move rfl) rfl ?_
    refine y (ev_move rfl) rfl ?_
    first
      | refine y (ev_len rfl Try.underlying60) rfl ?_
      | refine y (ev_lenSv rfl Try.underlying60 (by assumption)) rfl ?_
      | refine y (ev_lenV rfl Try.underlying60 (RdV.lenVal (by assumption))) rfl ?_
      | refine y (ev_lenV rfl Try.underlying60 (RdB.lenVal (by assumption))) rfl ?_
    refine y (ev_lss rfl rfl) rfl ?_
    refine y (ev_move rfl) rfl ?_
    refine ysplit 17 rfl (fun h14 => ?_) (fun h14 => ?_)
    · (try simp only [decide_eq_true_eq, beq_iff_eq, beq_eq_false_iff_ne, decide_eq_decide, decide_eq_false_iff_not, Bool.not_eq_true', Bool.not_eq_false', Bool.not_eq_true, Bool.not_eq_false, Bool.not_not, ne_eq, Option.isNone_some, Option.isSome_some, Option.isNone_none, Option.isSome_none] at h14)
      refine yg1 rfl rfl ?_
      refine y (ev_move rfl) rfl ?_
      refine yg1 rfl rfl ?_
      refine y (ev_lss rfl rfl) rfl ?_
      refine y (ev_pick1 rfl rfl) rfl ?_
      refine ynil' (kthn (hK9 _ _ ?_))
      clear hK9
      refine ccond rfl (fun h18 => ?_) (fun h18 => ?_)
      · (try simp only [decide_eq_true_eq, beq_iff_eq, beq_eq_false_iff_ne, decide_eq_decide, decide_eq_false_iff_not, Bool.not_eq_true', Bool.not_eq_false', Bool.not_eq_true, Bool.not_eq_false, Bool.not_not, ne_eq, Option.isNone_some, Option.isSome_some, Option.isNone_none, Option.isSome_none] at h18)
        refine cskip' (kthn (hK8 _ _ ?_))
        clear hK8
        refine cseq ?_; intro K10 hK10
        refine cblock ?_
        refine cseq ?_; intro K11 hK11
        refine cseq ?_; intro K12 hK12
        refine creg ?_
        obtain ⟨a, hka⟩ : ∃ a, acts[k]? = some a := ⟨_, List.getElem?_eq_getElem (by omega)⟩
        have hact := haa a (List.mem_of_getElem? hka)
        refine y (ev_move rfl) rfl ?_
        refine y (ev_nil rfl) rfl ?_
        refine y (ev_fieldAddr 1 rfl Try.underlying31 rfl Try.sizeOf28) rfl ?_
        refine y (ev_load rfl Try.isAgg28 (by repeat first | exact .z | apply In.s) rfl) rfl ?_
        skip
        · skip
          refine y (ev_eqlPnil rfl rfl Try.underlying28) rfl ?_
          refine y (ev_move rfl) rfl ?_
          refine yg1 rfl rfl ?_
          refine y (ev_move rfl) rfl ?_
          refine yg1 rfl rfl ?_
          refine y (ev_move rfl) rfl ?_
          refine yg1 rfl rfl ?_
          refine y (ev_ixV hl rfl rfl Try.underlying60 Try.sizeOf64 (by omega) (by omega)) rfl ?_
          refine yg1 rfl rfl ?_
          refine y (ev_loadNV (us := a.cells) (k * 18) hl (by repeat first | exact .refl | exact .nil | exact .z | apply Pk.s | refine Ge.e ?_ | apply Ge.pick | apply Ge.drop) rfl Try.isAgg64 Try.sizeOf64 (by simp) (actwsV_get hka) rfl) rfl ?_
          refine yg1 rfl rfl ?_
          refine ycall (lLarge (x := a) ?lx29) rfl Try.call29 (by repeat first | exact .nil | exact .z | apply Pk.s | apply Tk.cons) rfl ?_
          case lx29 => exact hact.mono (by repeat first | exact .refl | exact .nil | exact .z | apply Pk.s | refine Ge.e ?_ | apply Ge.pick | apply Ge.drop)
          rintro v L' ⟨big33, rfl, hbig33, rfl⟩
          refine y (ev_pick0 rfl rfl) rfl ?_
          refine ynil' (kthn (hK12 _ _ ?_))
          clear hK12
          refine ccond rfl (fun h31 => ?_) (fun h31 => ?_)
          · (try simp only [decide_eq_true_eq, beq_iff_eq, beq_eq_false_iff_ne, decide_eq_decide, decide_eq_false_iff_not, Bool.not_eq_true', Bool.not_eq_false', Bool.not_eq_true, Bool.not_eq_false, Bool.not_not, ne_eq, Option.isNone_some, Option.isSome_some, Option.isNone_none, Option.isSome_none] at h31)
            refine cseq ?_; intro K13 hK13
            refine creg ?_
            refine y (ev_move rfl) rfl ?_
            refine y (ev_nil rfl) rfl ?_
            refine y (ev_fieldAddr 1 rfl Try.underlying31 rfl Try.sizeOf28) rfl ?_
            refine y (ev_load rfl Try.isAgg28 (by repeat first | exact .z | apply In.s) rfl) rfl ?_
            refine y (ev_neqPnil rfl rfl Try.underlying28) rfl ?_
            refine y (ev_assign rfl) rfl ?_
            refine ynil' (kthn (hK13 _ _ ?_))
            clear hK13
            refine cret (kthr (kbr (kthr (kthr (kbr (kthr ?_))))))
            first
              | (exfalso; omega; done)
              | (refine kretv Try.results10 rfl (L1 := R) (by repeat first | exact .refl | exact .nil | exact .z | apply Pk.s | refine Ge.e ?_ | apply Ge.pick | apply Ge.drop) ?_
                 exact ⟨_, ⟨by rfl, rfl⟩, by rfl⟩)
          · (try simp only [decide_eq_true_eq, beq_iff_eq, beq_eq_false_iff_ne, decide_eq_decide, decide_eq_false_iff_not, Bool.not_eq_true', Bool.not_eq_false', Bool.not_eq_true, Bool.not_eq_false, Bool.not_not, ne_eq, Option.isNone_some, Option.isSome_some, Option.isNone_none, Option.isSome_none] at h31)
            have hks := hbig33 h31
            refine cskip' (kthn (hK11 _ _ ?_))
            clear hK11
            refine cseq ?_; intro K14 hK14
            have hJr11 : ∀ x : LsM, (x.ok (wt % 20 + 1) (k + 1)) → Sk 109 K14 ([(6, i64 k), (5, ptr l12), (1, av)]) ([lifeP l12 q12 (ptr x.s) (wt % 20 + 1) mb12 false, ownM mb12 x.kv x.n, witP x.s x.c x.W, celP x.c q12 x.W.c, dev q12 x.D] ++ R) := by
              rintro T hIr11
              refine hK14 _ _ ?_
              have hT := hIr11; obtain ⟨hE, hop⟩ := hT.open
              refine cseq ?_; intro K15 hK15
              refine cdraw 13 [(0, true), (1, true), (2, true), (3, true), (4, true), (5, true), (6, true), (7, true), (8, false), (9, true), (10, true), (11, true), (12, true)] ([lifeP l12 q12 (ptr T.s) (wt % 20 + 1) mb12 false] ++ R) Try.mixed (by kernel_rfl) (by repeat first | exact .refl | exact .nil | exact .z | apply Pk.s | refine Ge.e ?_ | apply Ge.pick | apply Ge.drop) ?_
              refine hr rfl (ev_move rfl) rfl ?_
              refine hr rfl (ev_nil rfl) rfl ?_
              refine hr rfl (ev_fieldAddr 0 rfl Try.underlying31 rfl Try.sizeOf27) rfl ?_
              refine hr rfl (ev_load rfl Try.isAgg27 (by repeat first | exact .z | apply In.s) rfl) rfl ?_
              refine hr rfl (ev_move rfl) rfl ?_
              refine hr rfl (ev_nil rfl) rfl ?_
              refine hr rfl (ev_fieldAddr 2 rfl Try.underlying31 rfl Try.sizeOf2) rfl ?_
              refine hr rfl (ev_load rfl Try.isAgg2 (by repeat first | exact .z | apply In.s) rfl) rfl ?_
              refine hcall rfl (wOpenGood hT.good.up.ok hE) rfl Try.call32 (by repeat first | exact .nil | exact .z | apply Pk.s | apply Tk.cons) rfl ?_
              rintro v L' ⟨s61, c61, rfl, rfl⟩; refine ⟨(by repeat first | exact .refl | exact .nil | exact .z | apply Pk.s | refine Ge.e ?_ | apply Ge.pick | apply Ge.drop), ?_⟩
              rw [hop]
              refine hr rfl (ev_move rfl) rfl ?_
              refine hr rfl (ev_extract rfl rfl) rfl ?_
              refine hr rfl (ev_extract rfl rfl) rfl ?_
              refine hr rfl (ev_assign rfl) rfl ?_
              refine hnil ?_
              refine y (ev_assign rfl) rfl ?_
              refine hnoP' (kthn (hK15 _ _ ?_))
              clear hK15
              refine cseq ?_; intro K16 hK16
              refine cdrawN 44 (.op 0 0 (.op 1 0 (.op 2 0 (.op 3 0 (.op 4 0 (.op 5 0 (.op 6 0 (.op 7 0 (.op 9 0 (.op 10 0 (.op 11 0 (.op 12 1 (.op 8 2 (.op 13 2 (.op 14 0 (.op 15 0 (.op 16 0 (.op 17 0 (.op 19 0 (.op 20 0 (.op 21 0 (.op 22 1 (.op 18 2 (.op 23 2 (.op 24 0 (.op 25 0 (.op 26 0 (.op 27 0 (.op 29 0 (.op 30 0 (.op 31 0 (.op 32 1 (.op 28 2 (.op 33 2 (.op 34 0 (.op 35 0 (.op 36 0 (.op 37 0 (.op 39 0 (.op 40 0 (.op 41 0 (.op 42 1 (.op 38 2 (.op 43 0 (.nil))))))))))))))))))))))))))))))))))))))))))))) ([lifeP l12 q12 (ptr T.s) (wt % 20 + 1) mb12 false] ++ R) Try.mixed (by kernel_rfl) (by repeat first | exact .refl | exact .nil | exact .z | apply Pk.s | refine Ge.e ?_ | apply Ge.pick | apply Ge.drop) ?_
              refine nz rfl (ev_move rfl) rfl ?_
              skip
              · skip
                refine nz rfl (ev_eqlPnil rfl rfl Try.underlying28) rfl ?_
                refine nz rfl (ev_move rfl) rfl ?_
                refine nz1 rfl rfl rfl (ev_move rfl) rfl ?_
                refine nz1 rfl rfl rfl (ev_neq rfl rfl) rfl ?_
                refine nz rfl (ev_pick0 rfl rfl) rfl ?_
                refine nz rfl (ev_move rfl) rfl ?_
                refine nz1 rfl rfl rfl (ev_move rfl) rfl ?_
                refine nz1 rfl rfl rfl (ev_move rfl) rfl ?_
                refine nz1 rfl rfl rfl (ev_nil rfl) rfl ?_
                refine nz1 rfl rfl rfl (ev_fieldAddr 1 rfl Try.underlying31 rfl Try.sizeOf28) rfl ?_
                refine nr1 rfl rfl rfl (ev_load rfl Try.isAgg28 (by repeat first | exact .z | apply In.s) rfl) rfl ?_
                refine ncall1 rfl rfl rfl (wEpoch) rfl Try.call18 (by repeat first | exact .nil | exact .z | apply Pk.s | apply Tk.cons) rfl ?_
                rintro v L' ⟨rfl, rfl⟩; refine ⟨(by repeat first | exact .refl | exact .nil | exact .z | apply Pk.s | refine Ge.e ?_ | apply Ge.pick | apply Ge.drop), ?_⟩
                refine ncall1 rfl rfl rfl (wEpoch) rfl Try.call18 (by repeat first | exact .nil | exact .z | apply Pk.s | apply Tk.cons) rfl ?_
                rintro v L' ⟨rfl, rfl⟩; refine ⟨(by repeat first | exact .refl | exact .nil | exact .z | apply Pk.s | refine Ge.e ?_ | apply Ge.pick | apply Ge.drop), ?_⟩
                refine nz1 rfl rfl rfl (ev_neq rfl rfl) rfl ?_
                rw [show (!decide (T.W.f.epoch = T.W.f.epoch)) = false by simp]
                refine nz rfl (ev_pick0 rfl rfl) rfl ?_
                refine nz rfl (ev_move rfl) rfl ?_
                refine nz1 rfl rfl rfl (ev_move rfl) rfl ?_
                refine nz1 rfl rfl rfl (ev_move rfl) rfl ?_
                refine nz1 rfl rfl rfl (ev_nil rfl) rfl ?_
                refine nz1 rfl rfl rfl (ev_fieldAddr 1 rfl Try.underlying31 rfl Try.sizeOf28) rfl ?_
                refine nr1 rfl rfl rfl (ev_load rfl Try.isAgg28 (by repeat first | exact .z | apply In.s) rfl) rfl ?_
                refine ncall1 rfl rfl rfl (wHolder) rfl Try.call19 (by repeat first | exact .nil | exact .z | apply Pk.s | apply Tk.cons) rfl ?_
                rintro v L' ⟨rfl, rfl⟩; refine ⟨(by repeat first | exact .refl | exact .nil | exact .z | apply Pk.s | refine Ge.e ?_ | apply Ge.pick | apply Ge.drop), ?_⟩
                refine ncall1 rfl rfl rfl (wHolder) rfl Try.call19 (by repeat first | exact .nil | exact .z | apply Pk.s | apply Tk.cons) rfl ?_
                rintro v L' ⟨rfl, rfl⟩; refine ⟨(by repeat first | exact .refl | exact .nil | exact .z | apply Pk.s | refine Ge.e ?_ | apply Ge.pick | apply Ge.drop), ?_⟩
                refine nz1 rfl rfl rfl (ev_neq rfl rfl) rfl ?_
                rw [show (!decide (T.W.f.holder = T.W.f.holder)) = false by simp]
                refine nz rfl (ev_pick0 rfl rfl) rfl ?_
                refine nz rfl (ev_move rfl) rfl ?_
                refine nz1 rfl rfl rfl (ev_move rfl) rfl ?_
                refine nz1 rfl rfl rfl (ev_move rfl) rfl ?_
                refine nz1 rfl rfl rfl (ev_nil rfl) rfl ?_
                refine nz1 rfl rfl rfl (ev_fieldAddr 1 rfl Try.underlying31 rfl Try.sizeOf28) rfl ?_
                refine nr1 rfl rfl rfl (ev_load rfl Try.isAgg28 (by repeat first | exact .z | apply In.s) rfl) rfl ?_
                refine ncall1 rfl rfl rfl (wMask) rfl Try.call17 (by repeat first | exact .nil | exact .z | apply Pk.s | apply Tk.cons) rfl ?_
                rintro v L' ⟨rfl, rfl⟩; refine ⟨(by repeat first | exact .refl | exact .nil | exact .z | apply Pk.s | refine Ge.e ?_ | apply Ge.pick | apply Ge.drop), ?_⟩
                refine ncall1 rfl rfl rfl (wMask) rfl Try.call17 (by repeat first | exact .nil | exact .z | apply Pk.s | apply Tk.cons) rfl ?_
                rintro v L' ⟨rfl, rfl⟩; refine ⟨(by repeat first | exact .refl | exact .nil | exact .z | apply Pk.s | refine Ge.e ?_ | apply Ge.pick | apply Ge.drop), ?_⟩
                refine nz1 rfl rfl rfl (ev_neq rfl rfl) rfl ?_
                rw [show (!decide (T.W.f.mask = T.W.f.mask)) = false by simp]
                refine nz rfl (ev_pick0 rfl rfl) rfl ?_
                refine nz rfl (ev_move rfl) rfl ?_
                refine nz1 rfl rfl rfl (ev_move rfl) rfl ?_
                refine nz1 rfl rfl rfl (ev_move rfl) rfl ?_
                refine nz1 rfl rfl rfl (ev_nil rfl) rfl ?_
                refine nz1 rfl rfl rfl (ev_fieldAddr 2 rfl Try.underlying31 rfl Try.sizeOf2) rfl ?_
                refine nr1 rfl rfl rfl (ev_load rfl Try.isAgg2 (by repeat first | exact .z | apply In.s) rfl) rfl ?_
                refine ncall1 rfl rfl rfl (wLeft) rfl Try.call33 (by repeat first | exact .nil | exact .z | apply Pk.s | apply Tk.cons) rfl ?_
                rintro v L' ⟨rfl, rfl⟩; refine ⟨(by repeat first | exact .refl | exact .nil | exact .z | apply Pk.s | refine Ge.e ?_ | apply Ge.pick | apply Ge.drop), ?_⟩
                refine nz1 rfl rfl rfl (ev_neq rfl rfl) rfl ?_
                rw [show (!decide ((wt % 20 + 1 : Int) = wt % 20 + 1)) = false by simp]
                refine nnil ?_
                refine y (ev_pick0 rfl rfl) rfl ?_
                refine hnoP' (kthn (hK16 _ _ ?_))
                clear hK16
                refine ccond0 rfl ?_
                refine cskip' (kbn (kthn (hK10 _ _ ?_)))
                clear hK10
                refine creg ?_
                refine y (ev_move rfl) rfl ?_
                refine y (ev_add rfl rfl) rfl ?_
                rw [show IntKind.i64.wrap ((k:Int) + 1) = ((k+1 : Nat) : Int) by rw [wr (by omega) (by omega)]; rfl]
                refine y (ev_assign rfl) rfl ?_
                refine ynil' (kthn ?_)
                exact hL1 ((k + 1, T)) (⟨hT, by dsimp only; omega, by dsimp only; omega⟩) (by dsimp only; omega) _ _ (by repeat first | exact sub_nil | refine sub_cons rfl ?_ | refine sub_cons' rfl (by simp) ?_) (by repeat first | exact .refl | exact .nil | exact .z | apply Pk.s | refine Ge.e ?_ | apply Ge.pick | apply Ge.drop)
            clear hK14
            refine cseq ?_; intro K17 hK17
            refine creg ?_
            refine y (ev_move rfl) rfl ?_
            refine y (ev_move rfl) rfl ?_
            refine y (ev_ixV hl rfl rfl Try.underlying60 Try.sizeOf64 (by omega) (by omega)) rfl ?_
            refine y (ev_fieldAddr 0 rfl Try.underlying64 rfl Try.sizeOf3) rfl ?_
            refine y (ev_loadV (k * 18 + 0) hl (by repeat first | exact .refl | exact .nil | exact .z | apply Pk.s | refine Ge.e ?_ | apply Ge.pick | apply Ge.drop) rfl Try.isAgg3 (by simp) (actwsV_at hka (by decide))) rfl ?_
            refine y (ev_leq rfl rfl) rfl ?_
            refine ynil' (kthn (hK17 _ _ ?_))
            clear hK17
            refine ccond rfl (fun h106 => ?_) (fun h106 => ?_)
            · (try simp only [decide_eq_true_eq, beq_iff_eq, beq_eq_false_iff_ne, decide_eq_decide, decide_eq_false_iff_not, Bool.not_eq_true', Bool.not_eq_false', Bool.not_eq_true, Bool.not_eq_false, Bool.not_not, ne_eq, Option.isNone_some, Option.isSome_some, Option.isNone_none, Option.isSome_none] at h106)
              refine creg ?_
              refine y (ev_move rfl) rfl ?_
              refine y (ev_move rfl) rfl ?_
              refine y (ev_move rfl) rfl ?_
              refine y (ev_ixV hl rfl rfl Try.underlying60 Try.sizeOf64 (by omega) (by omega)) rfl ?_
              refine y (ev_loadNV (us := a.cells) (k * 18) hl (by repeat first | exact .refl | exact .nil | exact .z | apply Pk.s | refine Ge.e ?_ | apply Ge.pick | apply Ge.drop) rfl Try.isAgg64 Try.sizeOf64 (by simp) (actwsV_get hka) rfl) rfl ?_
              refine ycall (lDoGood (S := S) (k := k) (x := a) ?ls112 ?big112 ?ks112 ?ax112 ?one112) rfl Try.call30 (by repeat first | exact .nil | exact .z | apply Pk.s | apply Tk.cons) rfl ?_
              case ls112 => exact hS
              case big112 => omega
              case ks112 => exact hks
              case ax112 => exact hact.mono (by repeat first | exact .refl | exact .nil | exact .z | apply Pk.s | refine Ge.e ?_ | apply Ge.pick | apply Ge.drop)
              case one112 => omega
              rintro v L' ⟨w51, S51, rfl, hA51, hS51, hw51, rfl⟩
              refine ynil' (kthn ?_)
              first
                | exact ksub (by repeat first | exact sub_nil | refine sub_cons rfl ?_ | refine sub_cons' rfl (by simp) ?_) (by repeat first | exact .refl | exact .nil | exact .z | apply Pk.s | refine Ge.e ?_ | apply Ge.pick | apply Ge.drop) (hJr11 S51 hS51)
                | exact ksub (by repeat first | exact sub_nil | refine sub_cons rfl ?_ | refine sub_cons' rfl (by simp) ?_) (by repeat first | exact .refl | exact .nil | exact .z | apply Pk.s | refine Ge.e ?_ | apply Ge.pick | apply Ge.drop) (hJr11 S hS.up1)
            · (try simp only [decide_eq_true_eq, beq_iff_eq, beq_eq_false_iff_ne, decide_eq_decide, decide_eq_false_iff_not, Bool.not_eq_true', Bool.not_eq_false', Bool.not_eq_true, Bool.not_eq_false, Bool.not_not, ne_eq, Option.isNone_some, Option.isSome_some, Option.isNone_none, Option.isSome_none] at h106)
              refine cskip' (kthn ?_)
              first
                | exact ksub (by repeat first | exact sub_nil | refine sub_cons rfl ?_ | refine sub_cons' rfl (by simp) ?_) (by repeat first | exact .refl | exact .nil | exact .z | apply Pk.s | refine Ge.e ?_ | apply Ge.pick | apply Ge.drop) (hJr11 S51 hS51)
                | exact ksub (by repeat first | exact sub_nil | refine sub_cons rfl ?_ | refine sub_cons' rfl (by simp) ?_) (by repeat first | exact .refl | exact .nil | exact .z | apply Pk.s | refine Ge.e ?_ | apply Ge.pick | apply Ge.drop) (hJr11 S hS.up1)
      · (try simp only [decide_eq_true_eq, beq_iff_eq, beq_eq_false_iff_ne, decide_eq_decide, decide_eq_false_iff_not, Bool.not_eq_true', Bool.not_eq_false', Bool.not_eq_true, Bool.not_eq_false, Bool.not_not, ne_eq, Option.isNone_some, Option.isSome_some, Option.isNone_none, Option.isSome_none] at h18)
        refine cexit (kthx (kthx (kbx (kthn ?_))))
        exact ksub (by repeat first | exact sub_nil | refine sub_cons rfl ?_ | refine sub_cons' rfl (by simp) ?_) (by repeat first | exact .refl | exact .nil | exact .z | apply Pk.s | refine Ge.e ?_ | apply Ge.pick | apply Ge.drop) (hJ1 ⟨k, S⟩ ⟨hI1o, by first | trivial | omega⟩)
    · (try simp only [decide_eq_true_eq, beq_iff_eq, beq_eq_false_iff_ne, decide_eq_decide, decide_eq_false_iff_not, Bool.not_eq_true', Bool.not_eq_false', Bool.not_eq_true, Bool.not_eq_false, Bool.not_not, ne_eq, Option.isNone_some, Option.isSome_some, Option.isNone_none, Option.isSome_none] at h14)
      refine yg0 rfl rfl rfl rfl ?_
      refine yg0 rfl rfl rfl rfl ?_
      refine y (ev_pick0 rfl rfl) rfl ?_
      refine ynil' (kthn (hK9 _ _ ?_))
      clear hK9
      refine ccond0 rfl ?_
      refine cexit (kthx (kthx (kbx (kthn ?_))))
      exact ksub (by repeat first | exact sub_nil | refine sub_cons rfl ?_ | refine sub_cons' rfl (by simp) ?_) (by repeat first | exact .refl | exact .nil | exact .z | apply Pk.s | refine Ge.e ?_ | apply Ge.pick | apply Ge.drop) (hJ1 ⟨k, S⟩ ⟨hI1o, by first | trivial | omega⟩)
end W
end Go.Proofs
