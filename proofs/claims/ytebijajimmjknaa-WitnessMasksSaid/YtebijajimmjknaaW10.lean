/- A part of the proof: contracts and plain lemmas, each without conditions beyond those that it names. -/
import Derived.Test.YtebijajimmjknaaW9
import Derived.Test.YtebijajimmjknaaGH
set_option linter.unusedVariables false
set_option linter.unusedSimpArgs false
set_option linter.constructorNameAsVariable false
namespace Go.Proofs
open Go Go.Sl
namespace W
set_option linter.unusedVariables false
theorem lDoGood [Env] {R : List Seg} {l mb k : Nat} {q : Q3} {wt : Int} {S : LsM} {x : ActW} (hS : S.ok wt k) (hk : k < 4611686018427387904) (hks : x.ks.length ≤ 600) (hx : x.ok R) (hx1 : x.kind ≤ 1) :
    Con Try.prog 30 [ptr l, .agg x.cells.toArray] [lifeP l q (ptr S.s) wt mb false, ownM mb S.kv S.n, witP S.s S.c S.W, celP S.c q S.W.c, dev q S.D] R
      (fun u L' => ∃ (w : (MsgM × Bool) × LifeM) (S' : LsM), u = .tuple #[.agg w.1.1.cells.toArray, .bool w.1.2] ∧ ActGood S.W S.D S.g x (k + 1) w ∧ S'.ok wt (k + 1) ∧ S'.W = w.2.W ∧ L' = [lifeP l q (ptr S'.s) wt mb false, ownM mb S'.kv S'.n, witP S'.s S'.c S'.W, celP S'.c q S'.W.c, dev q S'.D]) := by
  have hA := actGood hS.good hk hS.inv hx1
  refine (lDo (g := S.g) (bad := false) hS.good.wok hS.good.up.len hS.own hS.wait hks hx).mono ?_
  rintro v L ⟨kv', n', s', c', rfl, h1, rfl⟩
  refine ⟨_, ⟨_, _, kv', n', _, s', c'⟩, rfl, hA, ⟨hA.good, hA.own, h1, hA.wait.trans hS.wait⟩, rfl, ?_⟩
  rw [hA.bad]
theorem lawTicks [Env] {R : List Seg} {wt : Int} {av : Value} {acts : List ActW} (h0 : 0 ≤ wt ∧ wt ≤ 255) (hl : RdV R av acts.length (actwsV acts)) (haa : ∀ a ∈ acts, a.ok R) :
    Con Try.prog 11 [.int .u8 wt, av] [] R (Is (.bool true) []) := by
  have hG0 := good_new (wait := wt % 20 + 1) (by omega)
  obtain ⟨hf0, hl0, hw0⟩ := witO_new (wt % 20 + 1)
  have hi0 : OwnInv (fun _ => none) (witO (Dev.new 2) 0 1 (wt % 20 + 1)).f := by rw [hf0]; exact ownInv_first
  refine con_enter Try.func11 Try.ntmps11 rfl rfl ?_
  refine cseq ?_; intro K1 hK1
  refine creg ?_
  refine y (ev_assign rfl) rfl ?_
  refine ynil' (kthn (hK1 _ _ ?_))
  clear hK1
  refine cseq ?_; intro K2 hK2
  refine cseq ?_; intro K3 hK3
  refine creg ?_
  refine ycall (awake14) rfl Try.call13 (by repeat first | exact .nil | exact .z | apply Pk.s | apply Tk.cons) rfl ?_
  rintro v L' ⟨rfl, rfl⟩
  skip
  · skip
    refine y (ev_not rfl) rfl ?_
    refine ynil' (kthn (hK3 _ _ ?_))
    clear hK3
    refine ccond0 rfl ?_
    refine cskip' (kthn (hK2 _ _ ?_))
    clear hK2
    refine cseq ?_; intro K4 hK4
    refine creg ?_
    refine y (ev_move rfl) rfl ?_
    refine ycall (wBegin ?wt5) rfl Try.call14 (by repeat first | exact .nil | exact .z | apply Pk.s | apply Tk.cons) rfl ?_
    case wt5 => exact h0
    rintro v L' ⟨l14, q14, s14, c14, mb14, rfl, rfl⟩
    generalize witO (Dev.new 2) 0 1 (wt % 20 + 1) = W0 at *
    have hS0 : LsM.ok ⟨W0, Dev.new 2, [], 0, fun _ => none, s14, c14⟩ (wt % 20 + 1) 0 := ⟨hG0, hi0, own_nil, hw0⟩
    refine y (ev_assign rfl) rfl ?_
    refine ynil' (kthn (hK4 _ _ ?_))
    clear hK4
    refine cseq ?_; intro K5 hK5
    refine cseq ?_; intro K6 hK6
    refine creg ?_
    refine y (ev_move rfl) rfl ?_
    refine y (ev_nil rfl) rfl ?_
    refine y (ev_fieldAddr 1 rfl Try.underlying31 rfl Try.sizeOf28) rfl ?_
    refine y (ev_load rfl Try.isAgg28 (by repeat first | exact .z | apply In.s) rfl) rfl ?_
    skip
    · skip
      refine y (ev_eqlPnil rfl rfl Try.underlying28) rfl ?_
      refine ynil' (kthn (hK6 _ _ ?_))
      clear hK6
      refine ccond0 rfl ?_
      refine cskip' (kthn (hK5 _ _ ?_))
      clear hK5
      refine cseq ?_; intro K7 hK7
      refine creg ?_
      refine y (ev_move rfl) rfl ?_
      refine y (ev_nil rfl) rfl ?_
      refine y (ev_fieldAddr 2 rfl Try.underlying31 rfl Try.sizeOf2) rfl ?_
      refine y (ev_load rfl Try.isAgg2 (by repeat first | exact .z | apply In.s) rfl) rfl ?_
      refine y (ev_assign rfl) rfl ?_
      refine ynil' (kthn (hK7 _ _ ?_))
      clear hK7
      refine cseq ?_; intro K8 hK8
      refine cseq ?_; intro K9 hK9
      refine creg ?_
      refine y (ev_assign rfl) rfl ?_
      refine ynil' (kthn (hK9 _ _ ?_))
      clear hK9
      have hJ1 : ∀ x : Nat × Int × LsM, ((x.2.2.ok (wt % 20 + 1) x.1 ∧ x.1 ≤ acts.length ∧ x.1 ≤ 100 ∧ x.2.1 = x.2.2.W.left) ∧ (True)) → Sk 86 K8 ([(7, i64 x.1), (6, i64 x.2.1), (5, ptr l14), (1, av)]) ([lifeP l14 q14 (ptr x.2.2.s) (wt % 20 + 1) mb14 false, ownM mb14 x.2.2.kv x.2.2.n, witP x.2.2.s x.2.2.c x.2.2.W, celP x.2.2.c q14 x.2.2.W.c, dev q14 x.2.2.D] ++ R) := by
        rintro ⟨k, lf, S⟩ ⟨hI1, hX1⟩
        refine hK8 _ _ ?_
        obtain ⟨hS, hk1, hk2, hlf⟩ := hI1; dsimp only at hS hk1 hk2 hlf ⊢
        refine cseq ?_; intro K10 hK10
        refine creg ?_
        refine y (ev_move rfl) rfl ?_
        refine y (ev_nil rfl) rfl ?_
        refine y (ev_fieldAddr 4 rfl Try.underlying31 rfl Try.sizeOf4) rfl ?_
        refine y (ev_load rfl Try.isAgg4 (by repeat first | exact .z | apply In.s) rfl) rfl ?_
        refine y (ev_not rfl) rfl ?_
        refine y (ev_assign rfl) rfl ?_
        refine ynil' (kthn (hK10 _ _ ?_))
        clear hK10
        refine cret ?_
        first
          | (exfalso; omega; done)
          | (refine kretv Try.results11 rfl (L1 := R) (by repeat first | exact .refl | exact .nil | exact .z | apply Pk.s | refine Ge.e ?_ | apply Ge.pick | apply Ge.drop) ?_
             exact ⟨_, ⟨by rfl, rfl⟩, by rfl⟩)
      clear hK8
      refine cblock ?_
      refine cloop (A := Nat × Int × LsM) (fun x => [(7, i64 x.1), (6, i64 x.2.1), (5, ptr l14), (1, av)]) (fun x => [lifeP l14 q14 (ptr x.2.2.s) (wt % 20 + 1) mb14 false, ownM mb14 x.2.2.kv x.2.2.n, witP x.2.2.s x.2.2.c x.2.2.W, celP x.2.2.c q14 x.2.2.W.c, dev q14 x.2.2.D] ++ R) (fun x => x.2.2.ok (wt % 20 + 1) x.1 ∧ x.1 ≤ acts.length ∧ x.1 ≤ 100 ∧ x.2.1 = x.2.2.W.left) (fun x => acts.length - x.1) ((0, wt % 20 + 1, ⟨W0, Dev.new 2, [], 0, fun _ => none, s14, c14⟩)) ?_ (by repeat first | exact sub_nil | refine sub_cons rfl ?_ | refine sub_cons' rfl (by simp) ?_) (by repeat first | exact .refl | exact .nil | exact .z | apply Pk.s | refine Ge.e ?_ | apply Ge.pick | apply Ge.drop) ?_
      · exact ⟨hS0, Nat.zero_le _, Nat.zero_le _, hl0.symm⟩
      rintro ⟨k, lf, S⟩ hI1 KL1 hL1
      have hI1o := hI1
      obtain ⟨hS, hk1, hk2, hlf⟩ := hI1; dsimp only at hS hk1 hk2 hlf ⊢
      refine cseq ?_; intro K11 hK11
      refine cseq ?_; intro K12 hK12
      refine creg ?_
      refine y (ev_move rfl) rfl ?_
      refine y (ev_move rfl) rfl ?_
      first
        | refine y (ev_len rfl Try.underlying60) rfl ?_
        | refine y (ev_lenSv rfl Try.underlying60 (by assumption)) rfl ?_
        | refine y (ev_lenV rfl Try.underlying60 (RdV.lenVal (by assumption))) rfl ?_
        | refine y (ev_lenV rfl Try.underlying60 (RdB.lenVal (by assumption))) rfl ?_
      refine y (ev_lss rfl rfl) rfl ?_
      refine y (ev_move rfl) rfl ?_
      refine ysplit 28 rfl (fun h29 => ?_) (fun h29 => ?_)
      · (try simp only [decide_eq_true_eq, beq_iff_eq, beq_eq_false_iff_ne, decide_eq_decide, decide_eq_false_iff_not, Bool.not_eq_true', Bool.not_eq_false', Bool.not_eq_true, Bool.not_eq_false, Bool.not_not, ne_eq, Option.isNone_some, Option.isSome_some, Option.isNone_none, Option.isSome_none] at h29)
        refine yg1 rfl rfl ?_
        refine y (ev_move rfl) rfl ?_
        refine yg1 rfl rfl ?_
        refine y (ev_lss rfl rfl) rfl ?_
        refine y (ev_pick1 rfl rfl) rfl ?_
        refine ynil' (kthn (hK12 _ _ ?_))
        clear hK12
        refine ccond rfl (fun h33 => ?_) (fun h33 => ?_)
        · (try simp only [decide_eq_true_eq, beq_iff_eq, beq_eq_false_iff_ne, decide_eq_decide, decide_eq_false_iff_not, Bool.not_eq_true', Bool.not_eq_false', Bool.not_eq_true, Bool.not_eq_false, Bool.not_not, ne_eq, Option.isNone_some, Option.isSome_some, Option.isNone_none, Option.isSome_none] at h33)
          refine cskip' (kthn (hK11 _ _ ?_))
          clear hK11
          refine cseq ?_; intro K13 hK13
          refine cblock ?_
          refine cseq ?_; intro K14 hK14
          refine creg ?_
          obtain ⟨a, hka⟩ : ∃ a, acts[k]? = some a := ⟨_, List.getElem?_eq_getElem (by omega)⟩
          have hact := haa a (List.mem_of_getElem? hka)
          refine y (ev_move rfl) rfl ?_
          refine y (ev_move rfl) rfl ?_
          refine y (ev_ixV hl rfl rfl Try.underlying60 Try.sizeOf64 (by omega) (by omega)) rfl ?_
          refine y (ev_loadNV (us := a.cells) (k * 18) hl (by repeat first | exact .refl | exact .nil | exact .z | apply Pk.s | refine Ge.e ?_ | apply Ge.pick | apply Ge.drop) rfl Try.isAgg64 Try.sizeOf64 (by simp) (actwsV_get hka) rfl) rfl ?_
          refine ya (ac_alloc Try.zeroValue64 rfl) rfl ?_
          rintro v L' ⟨b8, rfl, rfl⟩
          refine ya0 (ac_storeN rfl rfl hact.one Try.sizeOf64 (by repeat first | exact .z | apply Rp.s) rfl (by simp [ActW.cells, MsgM.cells]) rfl) ?_
          rintro v L' ⟨rfl, rfl⟩
          refine ynil' (kthn (hK14 _ _ ?_))
          clear hK14
          refine cseq ?_; intro K15 hK15
          refine cseq ?_; intro K16 hK16
          refine creg ?_
          refine y (ev_loadN (u := a.cells) rfl Try.isAgg64 Try.sizeOf64 (by repeat first | exact .z | apply In.s) rfl rfl) rfl ?_
          refine ycall (lLarge (x := a) ?lx41) rfl Try.call29 (by repeat first | exact .nil | exact .z | apply Pk.s | apply Tk.cons) rfl ?_
          case lx41 => exact hact.mono (by repeat first | exact .refl | exact .nil | exact .z | apply Pk.s | refine Ge.e ?_ | apply Ge.pick | apply Ge.drop)
          rintro v L' ⟨big39, rfl, hbig39, rfl⟩
          refine ynil' (kthn (hK16 _ _ ?_))
          clear hK16
          refine ccond rfl (fun h42 => ?_) (fun h42 => ?_)
          · (try simp only [decide_eq_true_eq, beq_iff_eq, beq_eq_false_iff_ne, decide_eq_decide, decide_eq_false_iff_not, Bool.not_eq_true', Bool.not_eq_false', Bool.not_eq_true, Bool.not_eq_false, Bool.not_not, ne_eq, Option.isNone_some, Option.isSome_some, Option.isNone_none, Option.isSome_none] at h42)
            refine cseq ?_; intro K17 hK17
            refine creg ?_
            refine y (ev_assign rfl) rfl ?_
            refine ynil' (kthn (hK17 _ _ ?_))
            clear hK17
            refine cret (kthr (kbr (kthr (kthr (kbr (kthr ?_))))))
            first
              | (exfalso; omega; done)
              | (refine kretv Try.results11 rfl (L1 := R) (by repeat first | exact .refl | exact .nil | exact .z | apply Pk.s | refine Ge.e ?_ | apply Ge.pick | apply Ge.drop) ?_
                 exact ⟨_, ⟨by rfl, rfl⟩, by rfl⟩)
          · (try simp only [decide_eq_true_eq, beq_iff_eq, beq_eq_false_iff_ne, decide_eq_decide, decide_eq_false_iff_not, Bool.not_eq_true', Bool.not_eq_false', Bool.not_eq_true, Bool.not_eq_false, Bool.not_not, ne_eq, Option.isNone_some, Option.isSome_some, Option.isNone_none, Option.isSome_none] at h42)
            have hks := hbig39 h42
            refine cskip' (kthn (hK15 _ _ ?_))
            clear hK15
            refine cseq ?_; intro K18 hK18
            refine cseq ?_; intro K19 hK19
            refine creg ?_
            refine y (ev_fieldAddr 0 rfl Try.underlying64 rfl Try.sizeOf3) rfl ?_
            refine y (ev_load rfl Try.isAgg3 (by repeat first | exact .z | apply In.s) rfl) rfl ?_
            refine y (ev_gtr rfl rfl) rfl ?_
            refine ynil' (kthn (hK19 _ _ ?_))
            clear hK19
            refine ccond rfl (fun h47 => ?_) (fun h47 => ?_)
            · (try simp only [decide_eq_true_eq, beq_iff_eq, beq_eq_false_iff_ne, decide_eq_decide, decide_eq_false_iff_not, Bool.not_eq_true', Bool.not_eq_false', Bool.not_eq_true, Bool.not_eq_false, Bool.not_not, ne_eq, Option.isNone_some, Option.isSome_some, Option.isNone_none, Option.isSome_none] at h47)
              refine cexit (kthx (kbx (kthn (hK13 _ _ ?_))))
              clear hK13
              refine creg ?_
              refine y (ev_move rfl) rfl ?_
              refine y (ev_add rfl rfl) rfl ?_
              rw [show IntKind.i64.wrap ((k:Int) + 1) = ((k+1 : Nat) : Int) by rw [wr (by omega) (by omega)]; rfl]
              refine y (ev_assign rfl) rfl ?_
              refine ynil' (kthn ?_)
              first
                | exact hL1 (k + 1, S46.W.left, S46) ⟨hS46, by dsimp only; omega, by dsimp only; omega, rfl⟩ (by dsimp only; omega) _ _ (by repeat first | exact sub_nil | refine sub_cons rfl ?_ | refine sub_cons' rfl (by simp) ?_) (by repeat first | exact .refl | exact .nil | exact .z | apply Pk.s | refine Ge.e ?_ | apply Ge.pick | apply Ge.drop)
                | exact hL1 (k + 1, lf, S) ⟨hS.up1, by dsimp only; omega, by dsimp only; omega, hlf⟩ (by dsimp only; omega) _ _ (by repeat first | exact sub_nil | refine sub_cons rfl ?_ | refine sub_cons' rfl (by simp) ?_) (by repeat first | exact .refl | exact .nil | exact .z | apply Pk.s | refine Ge.e ?_ | apply Ge.pick | apply Ge.drop)
            · (try simp only [decide_eq_true_eq, beq_iff_eq, beq_eq_false_iff_ne, decide_eq_decide, decide_eq_false_iff_not, Bool.not_eq_true', Bool.not_eq_false', Bool.not_eq_true, Bool.not_eq_false, Bool.not_not, ne_eq, Option.isNone_some, Option.isSome_some, Option.isNone_none, Option.isSome_none] at h47)
              refine cskip' (kthn (hK18 _ _ ?_))
              clear hK18
              refine cseq ?_; intro K20 hK20
              refine creg ?_
              refine y (ev_move rfl) rfl ?_
              refine y (ev_loadN (u := a.cells) rfl Try.isAgg64 Try.sizeOf64 (by repeat first | exact .z | apply In.s) rfl rfl) rfl ?_
              refine ycall (lDoGood (S := S) (k := k) (x := a) ?ls53 ?big53 ?ks53 ?ax53 ?one53) rfl Try.call30 (by repeat first | exact .nil | exact .z | apply Pk.s | apply Tk.cons) rfl ?_
              case ls53 => exact hS
              case big53 => omega
              case ks53 => exact hks
              case ax53 => exact hact.mono (by repeat first | exact .refl | exact .nil | exact .z | apply Pk.s | refine Ge.e ?_ | apply Ge.pick | apply Ge.drop)
              case one53 => omega
              rintro v L' ⟨w46, S46, rfl, hA46, hS46, hw46, rfl⟩
              have hwt := hS.wait
              have hlb := hS.good.left
              obtain ⟨-, hat2, hat3⟩ := tmod50 a.n
              refine y (ev_move rfl) rfl ?_
              refine y (ev_extract rfl rfl) rfl ?_
              refine y (ev_extract rfl rfl) rfl ?_
              refine ya (ac_alloc Try.zeroValue35 rfl) rfl ?_
              rintro v L' ⟨b9, rfl, rfl⟩
              refine ya0 (ac_storeN rfl rfl (msg_one _) Try.sizeOf35 (by repeat first | exact .z | apply Rp.s) rfl (by simp [MsgM.cells]) rfl) ?_
              rintro v L' ⟨rfl, rfl⟩
              refine y (ev_assign rfl) rfl ?_
              refine ynil' (kthn (hK20 _ _ ?_))
              clear hK20
              refine cseq ?_; intro K21 hK21
              refine cseq ?_; intro K22 hK22
              refine creg ?_
              refine y (ev_fieldAddr 0 rfl Try.underlying64 rfl Try.sizeOf3) rfl ?_
              refine y (ev_load rfl Try.isAgg3 (by repeat first | exact .z | apply In.s) rfl) rfl ?_
              refine y (ev_eql rfl rfl) rfl ?_
              refine ynil' (kthn (hK22 _ _ ?_))
              clear hK22
              refine ccond rfl (fun h63 => ?_) (fun h63 => ?_)
              · (try simp only [decide_eq_true_eq, beq_iff_eq, beq_eq_false_iff_ne, decide_eq_decide, decide_eq_false_iff_not, Bool.not_eq_true', Bool.not_eq_false', Bool.not_eq_true, Bool.not_eq_false, Bool.not_not, ne_eq, Option.isNone_some, Option.isSome_some, Option.isNone_none, Option.isSome_none] at h63)
                have hno := hA46.none (by omega)
                refine creg ?_
                refine y (ev_move rfl) rfl ?_
                refine y (ev_fieldAddr 1 rfl Try.underlying64 rfl Try.sizeOf3) rfl ?_
                refine y (ev_load rfl Try.isAgg3 (by repeat first | exact .z | apply In.s) rfl) rfl ?_
                refine y (ev_rem rfl rfl (by decide)) rfl ?_
                refine y (ev_max rfl rfl) rfl ?_
                rw [show (if 0 > a.n.tmod 50 then 0 else a.n.tmod 50) = (actT a.n : Int) by unfold actT; split <;> omega]
                refine y (ev_sub rfl rfl) rfl ?_
                rw [wr (by omega) (by omega)]
                refine y (ev_max rfl rfl) rfl ?_
                rw [max0]
                refine y (ev_assign rfl) rfl ?_
                refine ynil' (kthn (hK21 _ _ ?_))
                clear hK21
                refine cseq ?_; intro K23 hK23
                have hJr19 : ∀ x : Int, (x = S46.W.left) → Sk 86 K23 ([(7, i64 k), (6, i64 x), (5, ptr l14), (1, av)]) ([lifeP l14 q14 (ptr S46.s) (wt % 20 + 1) mb14 false, ownM mb14 S46.kv S46.n, witP S46.s S46.c S46.W, celP S46.c q14 S46.W.c, dev q14 S46.D] ++ R) := by
                  rintro z hIr19
                  refine hK23 _ _ ?_
                  have hz := hIr19; subst hz
                  refine cseq ?_; intro K24 hK24
                  refine creg ?_
                  refine y (ev_move rfl) rfl ?_
                  refine y (ev_nil rfl) rfl ?_
                  refine y (ev_fieldAddr 1 rfl Try.underlying31 rfl Try.sizeOf28) rfl ?_
                  refine y (ev_load rfl Try.isAgg28 (by repeat first | exact .z | apply In.s) rfl) rfl ?_
                  skip
                  · skip
                    refine ycall (wLeft) rfl Try.call33 (by repeat first | exact .nil | exact .z | apply Pk.s | apply Tk.cons) rfl ?_
                    rintro v L' ⟨rfl, rfl⟩
                    refine y (ev_move rfl) rfl ?_
                    refine y (ev_neq rfl rfl) rfl ?_
                    rw [show (!decide (S46.W.left = S46.W.left)) = false by simp]
                    refine ynil' (kthn (hK24 _ _ ?_))
                    clear hK24
                    refine ccond0 rfl ?_
                    refine cskip' (kbn (kthn (hK13 _ _ ?_)))
                    clear hK13
                    refine creg ?_
                    refine y (ev_move rfl) rfl ?_
                    refine y (ev_add rfl rfl) rfl ?_
                    rw [show IntKind.i64.wrap ((k:Int) + 1) = ((k+1 : Nat) : Int) by rw [wr (by omega) (by omega)]; rfl]
                    refine y (ev_assign rfl) rfl ?_
                    refine ynil' (kthn ?_)
                    first
                      | exact hL1 (k + 1, S46.W.left, S46) ⟨hS46, by dsimp only; omega, by dsimp only; omega, rfl⟩ (by dsimp only; omega) _ _ (by repeat first | exact sub_nil | refine sub_cons rfl ?_ | refine sub_cons' rfl (by simp) ?_) (by repeat first | exact .refl | exact .nil | exact .z | apply Pk.s | refine Ge.e ?_ | apply Ge.pick | apply Ge.drop)
                      | exact hL1 (k + 1, lf, S) ⟨hS.up1, by dsimp only; omega, by dsimp only; omega, hlf⟩ (by dsimp only; omega) _ _ (by repeat first | exact sub_nil | refine sub_cons rfl ?_ | refine sub_cons' rfl (by simp) ?_) (by repeat first | exact .refl | exact .nil | exact .z | apply Pk.s | refine Ge.e ?_ | apply Ge.pick | apply Ge.drop)
                clear hK23
                refine cseq ?_; intro K25 hK25
                refine creg ?_
                refine y (ev_move rfl) rfl ?_
                refine y (ev_move rfl) rfl ?_
                refine ysplit 60 rfl (fun h84 => ?_) (fun h84 => ?_)
                · (try simp only [decide_eq_true_eq, beq_iff_eq, beq_eq_false_iff_ne, decide_eq_decide, decide_eq_false_iff_not, Bool.not_eq_true', Bool.not_eq_false', Bool.not_eq_true, Bool.not_eq_false, Bool.not_not, ne_eq, Option.isNone_some, Option.isSome_some, Option.isNone_none, Option.isSome_none] at h84)
                  refine yg1 rfl rfl ?_
                  refine y (ev_fieldAddr 0 rfl Try.underlying35 rfl Try.sizeOf3) rfl ?_
                  refine yg1 rfl rfl ?_
                  refine y (ev_load rfl Try.isAgg3 (by repeat first | exact .z | apply In.s) rfl) rfl ?_
                  refine yg1 rfl rfl ?_
                  refine y (ev_eql rfl rfl) rfl ?_
                  refine y (ev_pick1 rfl rfl) rfl ?_
                  refine y (ev_move rfl) rfl ?_
                  refine ysplit 65 rfl (fun h90 => ?_) (fun h90 => ?_)
                  · (try simp only [decide_eq_true_eq, beq_iff_eq, beq_eq_false_iff_ne, decide_eq_decide, decide_eq_false_iff_not, Bool.not_eq_true', Bool.not_eq_false', Bool.not_eq_true, Bool.not_eq_false, Bool.not_not, ne_eq, Option.isNone_some, Option.isSome_some, Option.isNone_none, Option.isSome_none] at h90)
                    refine yg1 rfl rfl ?_
                    refine y (ev_fieldAddr 6 rfl Try.underlying35 rfl Try.sizeOf32) rfl ?_
                    refine yg1 rfl rfl ?_
                    refine y (ev_load rfl Try.isAgg32 (by repeat first | exact .z | apply In.s) rfl) rfl ?_
                    refine yg1 rfl rfl ?_
                    refine y (ev_eql rfl rfl) rfl ?_
                    refine y (ev_pick1 rfl rfl) rfl ?_
                    refine ynil' (kthn (hK25 _ _ ?_))
                    clear hK25
                    refine ccond rfl (fun h95 => ?_) (fun h95 => ?_)
                    · (try simp only [decide_eq_true_eq, beq_iff_eq, beq_eq_false_iff_ne, decide_eq_decide, decide_eq_false_iff_not, Bool.not_eq_true', Bool.not_eq_false', Bool.not_eq_true, Bool.not_eq_false, Bool.not_not, ne_eq, Option.isNone_some, Option.isSome_some, Option.isNone_none, Option.isSome_none] at h95)
                      refine creg ?_
                      have hgr : grantB w46.1 = true := by unfold grantB; simp_all
                      refine y (ev_move rfl) rfl ?_
                      refine y (ev_nil rfl) rfl ?_
                      refine y (ev_fieldAddr 2 rfl Try.underlying31 rfl Try.sizeOf2) rfl ?_
                      refine y (ev_load rfl Try.isAgg2 (by repeat first | exact .z | apply In.s) rfl) rfl ?_
                      refine y (ev_assign rfl) rfl ?_
                      refine ynil' (kthn ?_)
                      first
                        | exact ksub (by repeat first | exact sub_nil | refine sub_cons rfl ?_ | refine sub_cons' rfl (by simp) ?_) (by repeat first | exact .refl | exact .nil | exact .z | apply Pk.s | refine Ge.e ?_ | apply Ge.pick | apply Ge.drop) (hJr19 _ (left_is hA46 hw46 _ (.inr (.inl ⟨by omega, hgr, hwt.symm⟩))))
                        | exact ksub (by repeat first | exact sub_nil | refine sub_cons rfl ?_ | refine sub_cons' rfl (by simp) ?_) (by repeat first | exact .refl | exact .nil | exact .z | apply Pk.s | refine Ge.e ?_ | apply Ge.pick | apply Ge.drop) (hJr19 _ (left_is hA46 hw46 _ (.inl ⟨by omega, by rw [hlf]⟩)))
                        | exact ksub (by repeat first | exact sub_nil | refine sub_cons rfl ?_ | refine sub_cons' rfl (by simp) ?_) (by repeat first | exact .refl | exact .nil | exact .z | apply Pk.s | refine Ge.e ?_ | apply Ge.pick | apply Ge.drop) (hJr19 _ (left_is hA46 hw46 _ (.inr (.inr ⟨by omega, by unfold grantB; simp_all, hlf⟩))))
                        | (exfalso; simp_all; done)
                    · (try simp only [decide_eq_true_eq, beq_iff_eq, beq_eq_false_iff_ne, decide_eq_decide, decide_eq_false_iff_not, Bool.not_eq_true', Bool.not_eq_false', Bool.not_eq_true, Bool.not_eq_false, Bool.not_not, ne_eq, Option.isNone_some, Option.isSome_some, Option.isNone_none, Option.isSome_none] at h95)
                      refine cskip' (kthn ?_)
                      first
                        | exact ksub (by repeat first | exact sub_nil | refine sub_cons rfl ?_ | refine sub_cons' rfl (by simp) ?_) (by repeat first | exact .refl | exact .nil | exact .z | apply Pk.s | refine Ge.e ?_ | apply Ge.pick | apply Ge.drop) (hJr19 _ (left_is hA46 hw46 _ (.inr (.inl ⟨by omega, hgr, hwt.symm⟩))))
                        | exact ksub (by repeat first | exact sub_nil | refine sub_cons rfl ?_ | refine sub_cons' rfl (by simp) ?_) (by repeat first | exact .refl | exact .nil | exact .z | apply Pk.s | refine Ge.e ?_ | apply Ge.pick | apply Ge.drop) (hJr19 _ (left_is hA46 hw46 _ (.inl ⟨by omega, by rw [hlf]⟩)))
                        | exact ksub (by repeat first | exact sub_nil | refine sub_cons rfl ?_ | refine sub_cons' rfl (by simp) ?_) (by repeat first | exact .refl | exact .nil | exact .z | apply Pk.s | refine Ge.e ?_ | apply Ge.pick | apply Ge.drop) (hJr19 _ (left_is hA46 hw46 _ (.inr (.inr ⟨by omega, by unfold grantB; simp_all, hlf⟩))))
                        | (exfalso; simp_all; done)
                  · (try simp only [decide_eq_true_eq, beq_iff_eq, beq_eq_false_iff_ne, decide_eq_decide, decide_eq_false_iff_not, Bool.not_eq_true', Bool.not_eq_false', Bool.not_eq_true, Bool.not_eq_false, Bool.not_not, ne_eq, Option.isNone_some, Option.isSome_some, Option.isNone_none, Option.isSome_none] at h90)
                    refine yg0 rfl rfl rfl rfl ?_
                    refine yg0 rfl rfl rfl rfl ?_
                    refine yg0 rfl rfl rfl rfl ?_
                    refine y (ev_pick0 rfl rfl) rfl ?_
                    refine ynil' (kthn (hK25 _ _ ?_))
                    clear hK25
                    refine ccond0 rfl ?_
                    refine cskip' (kthn ?_)
                    first
                      | exact ksub (by repeat first | exact sub_nil | refine sub_cons rfl ?_ | refine sub_cons' rfl (by simp) ?_) (by repeat first | exact .refl | exact .nil | exact .z | apply Pk.s | refine Ge.e ?_ | apply Ge.pick | apply Ge.drop) (hJr19 _ (left_is hA46 hw46 _ (.inr (.inl ⟨by omega, hgr, hwt.symm⟩))))
                      | exact ksub (by repeat first | exact sub_nil | refine sub_cons rfl ?_ | refine sub_cons' rfl (by simp) ?_) (by repeat first | exact .refl | exact .nil | exact .z | apply Pk.s | refine Ge.e ?_ | apply Ge.pick | apply Ge.drop) (hJr19 _ (left_is hA46 hw46 _ (.inl ⟨by omega, by rw [hlf]⟩)))
                      | exact ksub (by repeat first | exact sub_nil | refine sub_cons rfl ?_ | refine sub_cons' rfl (by simp) ?_) (by repeat first | exact .refl | exact .nil | exact .z | apply Pk.s | refine Ge.e ?_ | apply Ge.pick | apply Ge.drop) (hJr19 _ (left_is hA46 hw46 _ (.inr (.inr ⟨by omega, by unfold grantB; simp_all, hlf⟩))))
                      | (exfalso; simp_all; done)
                · (try simp only [decide_eq_true_eq, beq_iff_eq, beq_eq_false_iff_ne, decide_eq_decide, decide_eq_false_iff_not, Bool.not_eq_true', Bool.not_eq_false', Bool.not_eq_true, Bool.not_eq_false, Bool.not_not, ne_eq, Option.isNone_some, Option.isSome_some, Option.isNone_none, Option.isSome_none] at h84)
                  refine yg0 rfl rfl rfl rfl ?_
                  refine yg0 rfl rfl rfl rfl ?_
                  refine yg0 rfl rfl rfl rfl ?_
                  refine y (ev_pick0 rfl rfl) rfl ?_
                  refine y (ev_move rfl) rfl ?_
                  refine yg0 rfl rfl rfl rfl ?_
                  refine yg0 rfl rfl rfl rfl ?_
                  refine yg0 rfl rfl rfl rfl ?_
                  refine y (ev_pick0 rfl rfl) rfl ?_
                  refine ynil' (kthn (hK25 _ _ ?_))
                  clear hK25
                  refine ccond0 rfl ?_
                  refine cskip' (kthn ?_)
                  first
                    | exact ksub (by repeat first | exact sub_nil | refine sub_cons rfl ?_ | refine sub_cons' rfl (by simp) ?_) (by repeat first | exact .refl | exact .nil | exact .z | apply Pk.s | refine Ge.e ?_ | apply Ge.pick | apply Ge.drop) (hJr19 _ (left_is hA46 hw46 _ (.inr (.inl ⟨by omega, hgr, hwt.symm⟩))))
                    | exact ksub (by repeat first | exact sub_nil | refine sub_cons rfl ?_ | refine sub_cons' rfl (by simp) ?_) (by repeat first | exact .refl | exact .nil | exact .z | apply Pk.s | refine Ge.e ?_ | apply Ge.pick | apply Ge.drop) (hJr19 _ (left_is hA46 hw46 _ (.inl ⟨by omega, by rw [hlf]⟩)))
                    | exact ksub (by repeat first | exact sub_nil | refine sub_cons rfl ?_ | refine sub_cons' rfl (by simp) ?_) (by repeat first | exact .refl | exact .nil | exact .z | apply Pk.s | refine Ge.e ?_ | apply Ge.pick | apply Ge.drop) (hJr19 _ (left_is hA46 hw46 _ (.inr (.inr ⟨by omega, by unfold grantB; simp_all, hlf⟩))))
                    | (exfalso; simp_all; done)
              · (try simp only [decide_eq_true_eq, beq_iff_eq, beq_eq_false_iff_ne, decide_eq_decide, decide_eq_false_iff_not, Bool.not_eq_true', Bool.not_eq_false', Bool.not_eq_true, Bool.not_eq_false, Bool.not_not, ne_eq, Option.isNone_some, Option.isSome_some, Option.isNone_none, Option.isSome_none] at h63)
                refine cskip' (kthn (hK21 _ _ ?_))
                clear hK21
                refine cseq ?_; intro K26 hK26
                have hJr19 : ∀ x : Int, (x = S46.W.left) → Sk 86 K26 ([(7, i64 k), (6, i64 x), (5, ptr l14), (1, av)]) ([lifeP l14 q14 (ptr S46.s) (wt % 20 + 1) mb14 false, ownM mb14 S46.kv S46.n, witP S46.s S46.c S46.W, celP S46.c q14 S46.W.c, dev q14 S46.D] ++ R) := by
                  rintro z hIr19
                  refine hK26 _ _ ?_
                  have hz := hIr19; subst hz
                  refine cseq ?_; intro K27 hK27
                  refine creg ?_
                  refine y (ev_move rfl) rfl ?_
                  refine y (ev_nil rfl) rfl ?_
                  refine y (ev_fieldAddr 1 rfl Try.underlying31 rfl Try.sizeOf28) rfl ?_
                  refine y (ev_load rfl Try.isAgg28 (by repeat first | exact .z | apply In.s) rfl) rfl ?_
                  skip
                  · skip
                    refine ycall (wLeft) rfl Try.call33 (by repeat first | exact .nil | exact .z | apply Pk.s | apply Tk.cons) rfl ?_
                    rintro v L' ⟨rfl, rfl⟩
                    refine y (ev_move rfl) rfl ?_
                    refine y (ev_neq rfl rfl) rfl ?_
                    rw [show (!decide (S46.W.left = S46.W.left)) = false by simp]
                    refine ynil' (kthn (hK27 _ _ ?_))
                    clear hK27
                    refine ccond0 rfl ?_
                    refine cskip' (kbn (kthn (hK13 _ _ ?_)))
                    clear hK13
                    refine creg ?_
                    refine y (ev_move rfl) rfl ?_
                    refine y (ev_add rfl rfl) rfl ?_
                    rw [show IntKind.i64.wrap ((k:Int) + 1) = ((k+1 : Nat) : Int) by rw [wr (by omega) (by omega)]; rfl]
                    refine y (ev_assign rfl) rfl ?_
                    refine ynil' (kthn ?_)
                    first
                      | exact hL1 (k + 1, S46.W.left, S46) ⟨hS46, by dsimp only; omega, by dsimp only; omega, rfl⟩ (by dsimp only; omega) _ _ (by repeat first | exact sub_nil | refine sub_cons rfl ?_ | refine sub_cons' rfl (by simp) ?_) (by repeat first | exact .refl | exact .nil | exact .z | apply Pk.s | refine Ge.e ?_ | apply Ge.pick | apply Ge.drop)
                      | exact hL1 (k + 1, lf, S) ⟨hS.up1, by dsimp only; omega, by dsimp only; omega, hlf⟩ (by dsimp only; omega) _ _ (by repeat first | exact sub_nil | refine sub_cons rfl ?_ | refine sub_cons' rfl (by simp) ?_) (by repeat first | exact .refl | exact .nil | exact .z | apply Pk.s | refine Ge.e ?_ | apply Ge.pick | apply Ge.drop)
                clear hK26
                refine cseq ?_; intro K28 hK28
                refine creg ?_
                refine y (ev_move rfl) rfl ?_
                refine y (ev_move rfl) rfl ?_
                refine ysplit 60 rfl (fun h117 => ?_) (fun h117 => ?_)
                · (try simp only [decide_eq_true_eq, beq_iff_eq, beq_eq_false_iff_ne, decide_eq_decide, decide_eq_false_iff_not, Bool.not_eq_true', Bool.not_eq_false', Bool.not_eq_true, Bool.not_eq_false, Bool.not_not, ne_eq, Option.isNone_some, Option.isSome_some, Option.isNone_none, Option.isSome_none] at h117)
                  refine yg1 rfl rfl ?_
                  refine y (ev_fieldAddr 0 rfl Try.underlying35 rfl Try.sizeOf3) rfl ?_
                  refine yg1 rfl rfl ?_
                  refine y (ev_load rfl Try.isAgg3 (by repeat first | exact .z | apply In.s) rfl) rfl ?_
                  refine yg1 rfl rfl ?_
                  refine y (ev_eql rfl rfl) rfl ?_
                  refine y (ev_pick1 rfl rfl) rfl ?_
                  refine y (ev_move rfl) rfl ?_
                  refine ysplit 65 rfl (fun h123 => ?_) (fun h123 => ?_)
                  · (try simp only [decide_eq_true_eq, beq_iff_eq, beq_eq_false_iff_ne, decide_eq_decide, decide_eq_false_iff_not, Bool.not_eq_true', Bool.not_eq_false', Bool.not_eq_true, Bool.not_eq_false, Bool.not_not, ne_eq, Option.isNone_some, Option.isSome_some, Option.isNone_none, Option.isSome_none] at h123)
                    refine yg1 rfl rfl ?_
                    refine y (ev_fieldAddr 6 rfl Try.underlying35 rfl Try.sizeOf32) rfl ?_
                    refine yg1 rfl rfl ?_
                    refine y (ev_load rfl Try.isAgg32 (by repeat first | exact .z | apply In.s) rfl) rfl ?_
                    refine yg1 rfl rfl ?_
                    refine y (ev_eql rfl rfl) rfl ?_
                    refine y (ev_pick1 rfl rfl) rfl ?_
                    refine ynil' (kthn (hK28 _ _ ?_))
                    clear hK28
                    refine ccond rfl (fun h128 => ?_) (fun h128 => ?_)
                    · (try simp only [decide_eq_true_eq, beq_iff_eq, beq_eq_false_iff_ne, decide_eq_decide, decide_eq_false_iff_not, Bool.not_eq_true', Bool.not_eq_false', Bool.not_eq_true, Bool.not_eq_false, Bool.not_not, ne_eq, Option.isNone_some, Option.isSome_some, Option.isNone_none, Option.isSome_none] at h128)
                      refine creg ?_
                      have hgr : grantB w46.1 = true := by unfold grantB; simp_all
                      refine y (ev_move rfl) rfl ?_
                      refine y (ev_nil rfl) rfl ?_
                      refine y (ev_fieldAddr 2 rfl Try.underlying31 rfl Try.sizeOf2) rfl ?_
                      refine y (ev_load rfl Try.isAgg2 (by repeat first | exact .z | apply In.s) rfl) rfl ?_
                      refine y (ev_assign rfl) rfl ?_
                      refine ynil' (kthn ?_)
                      first
                        | exact ksub (by repeat first | exact sub_nil | refine sub_cons rfl ?_ | refine sub_cons' rfl (by simp) ?_) (by repeat first | exact .refl | exact .nil | exact .z | apply Pk.s | refine Ge.e ?_ | apply Ge.pick | apply Ge.drop) (hJr19 _ (left_is hA46 hw46 _ (.inr (.inl ⟨by omega, hgr, hwt.symm⟩))))
                        | exact ksub (by repeat first | exact sub_nil | refine sub_cons rfl ?_ | refine sub_cons' rfl (by simp) ?_) (by repeat first | exact .refl | exact .nil | exact .z | apply Pk.s | refine Ge.e ?_ | apply Ge.pick | apply Ge.drop) (hJr19 _ (left_is hA46 hw46 _ (.inl ⟨by omega, by rw [hlf]⟩)))
                        | exact ksub (by repeat first | exact sub_nil | refine sub_cons rfl ?_ | refine sub_cons' rfl (by simp) ?_) (by repeat first | exact .refl | exact .nil | exact .z | apply Pk.s | refine Ge.e ?_ | apply Ge.pick | apply Ge.drop) (hJr19 _ (left_is hA46 hw46 _ (.inr (.inr ⟨by omega, by unfold grantB; simp_all, hlf⟩))))
                        | (exfalso; simp_all; done)
                    · (try simp only [decide_eq_true_eq, beq_iff_eq, beq_eq_false_iff_ne, decide_eq_decide, decide_eq_false_iff_not, Bool.not_eq_true', Bool.not_eq_false', Bool.not_eq_true, Bool.not_eq_false, Bool.not_not, ne_eq, Option.isNone_some, Option.isSome_some, Option.isNone_none, Option.isSome_none] at h128)
                      refine cskip' (kthn ?_)
                      first
                        | exact ksub (by repeat first | exact sub_nil | refine sub_cons rfl ?_ | refine sub_cons' rfl (by simp) ?_) (by repeat first | exact .refl | exact .nil | exact .z | apply Pk.s | refine Ge.e ?_ | apply Ge.pick | apply Ge.drop) (hJr19 _ (left_is hA46 hw46 _ (.inr (.inl ⟨by omega, hgr, hwt.symm⟩))))
                        | exact ksub (by repeat first | exact sub_nil | refine sub_cons rfl ?_ | refine sub_cons' rfl (by simp) ?_) (by repeat first | exact .refl | exact .nil | exact .z | apply Pk.s | refine Ge.e ?_ | apply Ge.pick | apply Ge.drop) (hJr19 _ (left_is hA46 hw46 _ (.inl ⟨by omega, by rw [hlf]⟩)))
                        | exact ksub (by repeat first | exact sub_nil | refine sub_cons rfl ?_ | refine sub_cons' rfl (by simp) ?_) (by repeat first | exact .refl | exact .nil | exact .z | apply Pk.s | refine Ge.e ?_ | apply Ge.pick | apply Ge.drop) (hJr19 _ (left_is hA46 hw46 _ (.inr (.inr ⟨by omega, by unfold grantB; simp_all, hlf⟩))))
                        | (exfalso; simp_all; done)
                  · (try simp only [decide_eq_true_eq, beq_iff_eq, beq_eq_false_iff_ne, decide_eq_decide, decide_eq_false_iff_not, Bool.not_eq_true', Bool.not_eq_false', Bool.not_eq_true, Bool.not_eq_false, Bool.not_not, ne_eq, Option.isNone_some, Option.isSome_some, Option.isNone_none, Option.isSome_none] at h123)
                    refine yg0 rfl rfl rfl rfl ?_
                    refine yg0 rfl rfl rfl rfl ?_
                    refine yg0 rfl rfl rfl rfl ?_
                    refine y (ev_pick0 rfl rfl) rfl ?_
                    refine ynil' (kthn (hK28 _ _ ?_))
                    clear hK28
                    refine ccond0 rfl ?_
                    refine cskip' (kthn ?_)
                    first
                      | exact ksub (by repeat first | exact sub_nil | refine sub_cons rfl ?_ | refine sub_cons' rfl (by simp) ?_) (by repeat first | exact .refl | exact .nil | exact .z | apply Pk.s | refine Ge.e ?_ | apply Ge.pick | apply Ge.drop) (hJr19 _ (left_is hA46 hw46 _ (.inr (.inl ⟨by omega, hgr, hwt.symm⟩))))
                      | exact ksub (by repeat first | exact sub_nil | refine sub_cons rfl ?_ | refine sub_cons' rfl (by simp) ?_) (by repeat first | exact .refl | exact .nil | exact .z | apply Pk.s | refine Ge.e ?_ | apply Ge.pick | apply Ge.drop) (hJr19 _ (left_is hA46 hw46 _ (.inl ⟨by omega, by rw [hlf]⟩)))
                      | exact ksub (by repeat first | exact sub_nil | refine sub_cons rfl ?_ | refine sub_cons' rfl (by simp) ?_) (by repeat first | exact .refl | exact .nil | exact .z | apply Pk.s | refine Ge.e ?_ | apply Ge.pick | apply Ge.drop) (hJr19 _ (left_is hA46 hw46 _ (.inr (.inr ⟨by omega, by unfold grantB; simp_all, hlf⟩))))
                      | (exfalso; simp_all; done)
                · (try simp only [decide_eq_true_eq, beq_iff_eq, beq_eq_false_iff_ne, decide_eq_decide, decide_eq_false_iff_not, Bool.not_eq_true', Bool.not_eq_false', Bool.not_eq_true, Bool.not_eq_false, Bool.not_not, ne_eq, Option.isNone_some, Option.isSome_some, Option.isNone_none, Option.isSome_none] at h117)
                  refine yg0 rfl rfl rfl rfl ?_
                  refine yg0 rfl rfl rfl rfl ?_
                  refine yg0 rfl rfl rfl rfl ?_
                  refine y (ev_pick0 rfl rfl) rfl ?_
                  refine y (ev_move rfl) rfl ?_
                  refine yg0 rfl rfl rfl rfl ?_
                  refine yg0 rfl rfl rfl rfl ?_
                  refine yg0 rfl rfl rfl rfl ?_
                  refine y (ev_pick0 rfl rfl) rfl ?_
                  refine ynil' (kthn (hK28 _ _ ?_))
                  clear hK28
                  refine ccond0 rfl ?_
                  refine cskip' (kthn ?_)
                  first
                    | exact ksub (by repeat first | exact sub_nil | refine sub_cons rfl ?_ | refine sub_cons' rfl (by simp) ?_) (by repeat first | exact .refl | exact .nil | exact .z | apply Pk.s | refine Ge.e ?_ | apply Ge.pick | apply Ge.drop) (hJr19 _ (left_is hA46 hw46 _ (.inr (.inl ⟨by omega, hgr, hwt.symm⟩))))
                    | exact ksub (by repeat first | exact sub_nil | refine sub_cons rfl ?_ | refine sub_cons' rfl (by simp) ?_) (by repeat first | exact .refl | exact .nil | exact .z | apply Pk.s | refine Ge.e ?_ | apply Ge.pick | apply Ge.drop) (hJr19 _ (left_is hA46 hw46 _ (.inl ⟨by omega, by rw [hlf]⟩)))
                    | exact ksub (by repeat first | exact sub_nil | refine sub_cons rfl ?_ | refine sub_cons' rfl (by simp) ?_) (by repeat first | exact .refl | exact .nil | exact .z | apply Pk.s | refine Ge.e ?_ | apply Ge.pick | apply Ge.drop) (hJr19 _ (left_is hA46 hw46 _ (.inr (.inr ⟨by omega, by unfold grantB; simp_all, hlf⟩))))
                    | (exfalso; simp_all; done)
        · (try simp only [decide_eq_true_eq, beq_iff_eq, beq_eq_false_iff_ne, decide_eq_decide, decide_eq_false_iff_not, Bool.not_eq_true', Bool.not_eq_false', Bool.not_eq_true, Bool.not_eq_false, Bool.not_not, ne_eq, Option.isNone_some, Option.isSome_some, Option.isNone_none, Option.isSome_none] at h33)
          refine cexit (kthx (kthx (kbx (kthn ?_))))
          exact ksub (by repeat first | exact sub_nil | refine sub_cons rfl ?_ | refine sub_cons' rfl (by simp) ?_) (by repeat first | exact .refl | exact .nil | exact .z | apply Pk.s | refine Ge.e ?_ | apply Ge.pick | apply Ge.drop) (hJ1 ⟨k, lf, S⟩ ⟨hI1o, by first | trivial | omega⟩)
      · (try simp only [decide_eq_true_eq, beq_iff_eq, beq_eq_false_iff_ne, decide_eq_decide, decide_eq_false_iff_not, Bool.not_eq_true', Bool.not_eq_false', Bool.not_eq_true, Bool.not_eq_false, Bool.not_not, ne_eq, Option.isNone_some, Option.isSome_some, Option.isNone_none, Option.isSome_none] at h29)
        refine yg0 rfl rfl rfl rfl ?_
        refine yg0 rfl rfl rfl rfl ?_
        refine y (ev_pick0 rfl rfl) rfl ?_
        refine ynil' (kthn (hK12 _ _ ?_))
        clear hK12
        refine ccond0 rfl ?_
        refine cexit (kthx (kthx (kbx (kthn ?_))))
        exact ksub (by repeat first | exact sub_nil | refine sub_cons rfl ?_ | refine sub_cons' rfl (by simp) ?_) (by repeat first | exact .refl | exact .nil | exact .z | apply Pk.s | refine Ge.e ?_ | apply Ge.pick | apply Ge.drop) (hJ1 ⟨k, lf, S⟩ ⟨hI1o, by first | trivial | omega⟩)
end W
end Go.Proofs
