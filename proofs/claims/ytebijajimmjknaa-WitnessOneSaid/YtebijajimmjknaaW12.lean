/- A part of the proof: contracts and plain lemmas, each without conditions beyond those that it names. -/
import Derived.Test.YtebijajimmjknaaW10
import Derived.Test.YtebijajimmjknaaGH
set_option linter.unusedVariables false
set_option linter.unusedSimpArgs false
set_option linter.constructorNameAsVariable false
namespace Go.Proofs
open Go Go.Sl
namespace W
set_option linter.unusedVariables false
theorem lDoOne [Env] {R : List Seg} {l mb k : Nat} {q : Q3} {wt : Int} {S : LsM} {x : ActW} (hS : OneS S.W S.D S.g k) (hO : OwnOk S.kv S.g) (hwt : S.W.wait = wt) (hk : k < 4611686018427387904) (hks : x.ks.length ≤ 600) (hx : x.ok R) :
    Con Try.prog 30 [ptr l, .agg x.cells.toArray] [lifeP l q (ptr S.s) wt mb false, ownM mb S.kv S.n, witP S.s S.c S.W, celP S.c q S.W.c, dev q S.D] R
      (fun u L' => ∃ (w : (MsgM × Bool) × LifeM) (S' : LsM), u = .tuple #[.agg w.1.1.cells.toArray, .bool w.1.2] ∧ OneS S'.W S'.D S'.g (k + 1) ∧ OwnOk S'.kv S'.g ∧ S'.W.wait = wt ∧ S.W.f.epoch ≤ S'.W.f.epoch ∧ L' = [lifeP l q (ptr S'.s) wt mb false, ownM mb S'.kv S'.n, witP S'.s S'.c S'.W, celP S'.c q S'.W.c, dev q S'.D]) := by
  obtain ⟨h1, h2, h3, h4⟩ := oneS_act hS hk hx.n.2 rfl
  refine (lDo (g := S.g) (bad := false) hS.wok hS.i.base.2.2.2.1 hO hwt hks hx).mono ?_
  rintro v L ⟨kv', n', s', c', rfl, h5, rfl⟩
  refine ⟨_, ⟨_, _, kv', n', _, s', c'⟩, rfl, h1, h5, h4.trans hwt, h3, ?_⟩
  rw [h2]
theorem lawOne [Env] {R : List Seg} {wt : Int} {av : Value} {acts : List ActW} (h0 : 0 ≤ wt ∧ wt ≤ 255) (hl : RdV R av acts.length (actwsV acts)) (haa : ∀ a ∈ acts, a.ok R) :
    Con Try.prog 8 [.int .u8 wt, av] [] R (Is (.bool true) []) := by
  have hG0 := good_new (wait := wt % 20 + 1) (by omega)
  obtain ⟨hf0, hl0, hw0⟩ := witO_new (wt % 20 + 1)
  have hi0 : OwnInv (fun _ => none) (witO (Dev.new 2) 0 1 (wt % 20 + 1)).f := by rw [hf0]; exact ownInv_first
  refine con_enter Try.func8 Try.ntmps8 rfl rfl ?_
  refine cseq ?_; intro K1 hK1
  refine creg ?_
  refine y (ev_assign rfl) rfl ?_
  refine ynil' (kthn (hK1 _ _ ?_))
  clear hK1
  refine cseq ?_; intro K2 hK2
  refine cseq ?_; intro K3 hK3
  refine creg ?_
  refine ycall (awake14) rfl Try.call13 (by repeat first | exact .nil | exact .z | apply Pk.s | apply Tk.cons) rfl ?_
  rintro v L' ⟨rfl, rfl⟩
  skip
  · skip
    refine y (ev_not rfl) rfl ?_
    refine ynil' (kthn (hK3 _ _ ?_))
    clear hK3
    refine ccond0 rfl ?_
    refine cskip' (kthn (hK2 _ _ ?_))
    clear hK2
    refine cseq ?_; intro K4 hK4
    refine creg ?_
    refine y (ev_move rfl) rfl ?_
    refine ycall (wBegin ?wt5) rfl Try.call14 (by repeat first | exact .nil | exact .z | apply Pk.s | apply Tk.cons) rfl ?_
    case wt5 => exact h0
    rintro v L' ⟨l11, q11, s11, c11, mb11, rfl, rfl⟩
    generalize witO (Dev.new 2) 0 1 (wt % 20 + 1) = W0 at *
    have hS0 : OneS W0 (Dev.new 2) (fun _ => none) 0 := ⟨.live ⟨hG0.up.ok, hG0.up.len, hG0.up.live, rfl⟩ hG0.c hG0.f hG0.gen, hi0, hG0.left, hG0.wait⟩
    refine y (ev_assign rfl) rfl ?_
    refine ynil' (kthn (hK4 _ _ ?_))
    clear hK4
    refine cseq ?_; intro K5 hK5
    refine creg ?_
    refine y (ev_assign rfl) rfl ?_
    refine ynil' (kthn (hK5 _ _ ?_))
    clear hK5
    refine cseq ?_; intro K6 hK6
    refine cseq ?_; intro K7 hK7
    refine creg ?_
    refine y (ev_assign rfl) rfl ?_
    refine ynil' (kthn (hK7 _ _ ?_))
    clear hK7
    have hJ1 : ∀ x : Nat × Int × LsM, ((OneS x.2.2.W x.2.2.D x.2.2.g x.1 ∧ OwnOk x.2.2.kv x.2.2.g ∧ x.2.2.W.wait = wt % 20 + 1 ∧ x.2.1 ≤ x.2.2.W.f.epoch ∧ x.1 ≤ acts.length ∧ x.1 ≤ 100) ∧ (True)) → Sk 63 K6 ([(7, i64 x.1), (6, i64 x.2.1), (5, ptr l11), (1, av)]) ([lifeP l11 q11 (ptr x.2.2.s) (wt % 20 + 1) mb11 false, ownM mb11 x.2.2.kv x.2.2.n, witP x.2.2.s x.2.2.c x.2.2.W, celP x.2.2.c q11 x.2.2.W.c, dev q11 x.2.2.D] ++ R) := by
      rintro ⟨k, ep, S⟩ ⟨hI1, hX1⟩
      refine hK6 _ _ ?_
      obtain ⟨hS, hO, hwt, hep, hk1, hk2⟩ := hI1; dsimp only at hS hO hwt hep hk1 hk2 ⊢
      refine cseq ?_; intro K8 hK8
      refine creg ?_
      refine y (ev_assign rfl) rfl ?_
      refine ynil' (kthn (hK8 _ _ ?_))
      clear hK8
      refine cret ?_
      first
        | (exfalso; omega; done)
        | (refine kretv Try.results8 rfl (L1 := R) (by repeat first | exact .refl | exact .nil | exact .z | apply Pk.s | refine Ge.e ?_ | apply Ge.pick | apply Ge.drop) ?_
           exact ⟨_, ⟨by rfl, rfl⟩, by rfl⟩)
    clear hK6
    refine cblock ?_
    refine cloop (A := Nat × Int × LsM) (fun x => [(7, i64 x.1), (6, i64 x.2.1), (5, ptr l11), (1, av)]) (fun x => [lifeP l11 q11 (ptr x.2.2.s) (wt % 20 + 1) mb11 false, ownM mb11 x.2.2.kv x.2.2.n, witP x.2.2.s x.2.2.c x.2.2.W, celP x.2.2.c q11 x.2.2.W.c, dev q11 x.2.2.D] ++ R) (fun x => OneS x.2.2.W x.2.2.D x.2.2.g x.1 ∧ OwnOk x.2.2.kv x.2.2.g ∧ x.2.2.W.wait = wt % 20 + 1 ∧ x.2.1 ≤ x.2.2.W.f.epoch ∧ x.1 ≤ acts.length ∧ x.1 ≤ 100) (fun x => acts.length - x.1) ((0, 0, ⟨W0, Dev.new 2, [], 0, fun _ => none, s11, c11⟩)) ?_ (by repeat first | exact sub_nil | refine sub_cons rfl ?_ | refine sub_cons' rfl (by simp) ?_) (by repeat first | exact .refl | exact .nil | exact .z | apply Pk.s | refine Ge.e ?_ | apply Ge.pick | apply Ge.drop) ?_
    · exact ⟨hS0, own_nil, hw0, by dsimp only; rw [hf0]; decide, Nat.zero_le _, Nat.zero_le _⟩
    rintro ⟨k, ep, S⟩ hI1 KL1 hL1
    have hI1o := hI1
    obtain ⟨hS, hO, hwt, hep, hk1, hk2⟩ := hI1; dsimp only at hS hO hwt hep hk1 hk2 ⊢
    refine cseq ?_; intro K9 hK9
    refine cseq ?_; intro K10 hK10
    refine creg ?_
    refine y (ev_move rfl) rfl ?_
    refine y (ev_move rfl) rfl ?_
    first
      | refine y (ev_len rfl Try.underlying60) rfl ?_
      | refine y (ev_lenSv rfl Try.underlying60 (by assumption)) rfl ?_
      | refine y (ev_lenV rfl Try.underlying60 (RdV.lenVal (by assumption))) rfl ?_
      | refine y (ev_lenV rfl Try.underlying60 (RdB.lenVal (by assumption))) rfl ?_
    refine y (ev_lss rfl rfl) rfl ?_
    refine y (ev_move rfl) rfl ?_
    refine ysplit 16 rfl (fun h15 => ?_) (fun h15 => ?_)
    · (try simp only [decide_eq_true_eq, beq_iff_eq, beq_eq_false_iff_ne, decide_eq_decide, decide_eq_false_iff_not, Bool.not_eq_true', Bool.not_eq_false', Bool.not_eq_true, Bool.not_eq_false, Bool.not_not, ne_eq, Option.isNone_some, Option.isSome_some, Option.isNone_none, Option.isSome_none] at h15)
      refine yg1 rfl rfl ?_
      refine y (ev_move rfl) rfl ?_
      refine yg1 rfl rfl ?_
      refine y (ev_lss rfl rfl) rfl ?_
      refine y (ev_pick1 rfl rfl) rfl ?_
      refine ynil' (kthn (hK10 _ _ ?_))
      clear hK10
      refine ccond rfl (fun h19 => ?_) (fun h19 => ?_)
      · (try simp only [decide_eq_true_eq, beq_iff_eq, beq_eq_false_iff_ne, decide_eq_decide, decide_eq_false_iff_not, Bool.not_eq_true', Bool.not_eq_false', Bool.not_eq_true, Bool.not_eq_false, Bool.not_not, ne_eq, Option.isNone_some, Option.isSome_some, Option.isNone_none, Option.isSome_none] at h19)
        refine cskip' (kthn (hK9 _ _ ?_))
        clear hK9
        refine cseq ?_; intro K11 hK11
        refine cblock ?_
        refine cseq ?_; intro K12 hK12
        refine cseq ?_; intro K13 hK13
        refine creg ?_
        obtain ⟨a, hka⟩ : ∃ a, acts[k]? = some a := ⟨_, List.getElem?_eq_getElem (by omega)⟩
        have hact := haa a (List.mem_of_getElem? hka)
        refine y (ev_move rfl) rfl ?_
        refine y (ev_nil rfl) rfl ?_
        refine y (ev_fieldAddr 1 rfl Try.underlying31 rfl Try.sizeOf28) rfl ?_
        refine y (ev_load rfl Try.isAgg28 (by repeat first | exact .z | apply In.s) rfl) rfl ?_
        skip
        · skip
          refine y (ev_eqlPnil rfl rfl Try.underlying28) rfl ?_
          refine y (ev_move rfl) rfl ?_
          refine yg1 rfl rfl ?_
          refine y (ev_move rfl) rfl ?_
          refine yg1 rfl rfl ?_
          refine y (ev_move rfl) rfl ?_
          refine yg1 rfl rfl ?_
          refine y (ev_ixV hl rfl rfl Try.underlying60 Try.sizeOf64 (by omega) (by omega)) rfl ?_
          refine yg1 rfl rfl ?_
          refine y (ev_loadNV (us := a.cells) (k * 18) hl (by repeat first | exact .refl | exact .nil | exact .z | apply Pk.s | refine Ge.e ?_ | apply Ge.pick | apply Ge.drop) rfl Try.isAgg64 Try.sizeOf64 (by simp) (actwsV_get hka) rfl) rfl ?_
          refine yg1 rfl rfl ?_
          refine ycall (lLarge (x := a) ?lx30) rfl Try.call29 (by repeat first | exact .nil | exact .z | apply Pk.s | apply Tk.cons) rfl ?_
          case lx30 => exact hact.mono (by repeat first | exact .refl | exact .nil | exact .z | apply Pk.s | refine Ge.e ?_ | apply Ge.pick | apply Ge.drop)
          rintro v L' ⟨big32, rfl, hbig32, rfl⟩
          refine y (ev_pick0 rfl rfl) rfl ?_
          refine ynil' (kthn (hK13 _ _ ?_))
          clear hK13
          refine ccond rfl (fun h32 => ?_) (fun h32 => ?_)
          · (try simp only [decide_eq_true_eq, beq_iff_eq, beq_eq_false_iff_ne, decide_eq_decide, decide_eq_false_iff_not, Bool.not_eq_true', Bool.not_eq_false', Bool.not_eq_true, Bool.not_eq_false, Bool.not_not, ne_eq, Option.isNone_some, Option.isSome_some, Option.isNone_none, Option.isSome_none] at h32)
            refine cseq ?_; intro K14 hK14
            refine creg ?_
            refine y (ev_move rfl) rfl ?_
            refine y (ev_nil rfl) rfl ?_
            refine y (ev_fieldAddr 1 rfl Try.underlying31 rfl Try.sizeOf28) rfl ?_
            refine y (ev_load rfl Try.isAgg28 (by repeat first | exact .z | apply In.s) rfl) rfl ?_
            refine y (ev_neqPnil rfl rfl Try.underlying28) rfl ?_
            refine y (ev_assign rfl) rfl ?_
            refine ynil' (kthn (hK14 _ _ ?_))
            clear hK14
            refine cret (kthr (kbr (kthr (kthr (kbr (kthr ?_))))))
            first
              | (exfalso; omega; done)
              | (refine kretv Try.results8 rfl (L1 := R) (by repeat first | exact .refl | exact .nil | exact .z | apply Pk.s | refine Ge.e ?_ | apply Ge.pick | apply Ge.drop) ?_
                 exact ⟨_, ⟨by rfl, rfl⟩, by rfl⟩)
          · (try simp only [decide_eq_true_eq, beq_iff_eq, beq_eq_false_iff_ne, decide_eq_decide, decide_eq_false_iff_not, Bool.not_eq_true', Bool.not_eq_false', Bool.not_eq_true, Bool.not_eq_false, Bool.not_not, ne_eq, Option.isNone_some, Option.isSome_some, Option.isNone_none, Option.isSome_none] at h32)
            have hks := hbig32 h32
            refine cskip' (kthn (hK12 _ _ ?_))
            clear hK12
            refine cseq ?_; intro K15 hK15
            refine creg ?_
            refine y (ev_move rfl) rfl ?_
            refine y (ev_move rfl) rfl ?_
            refine y (ev_move rfl) rfl ?_
            refine y (ev_ixV hl rfl rfl Try.underlying60 Try.sizeOf64 (by omega) (by omega)) rfl ?_
            refine y (ev_loadNV (us := a.cells) (k * 18) hl (by repeat first | exact .refl | exact .nil | exact .z | apply Pk.s | refine Ge.e ?_ | apply Ge.pick | apply Ge.drop) rfl Try.isAgg64 Try.sizeOf64 (by simp) (actwsV_get hka) rfl) rfl ?_
            refine ycall (lDoOne (S := S) (k := k) (x := a) hS hO hwt (by omega) hks (hact.mono (by repeat first | exact .refl | exact .nil | exact .z | apply Pk.s | refine Ge.e ?_ | apply Ge.pick | apply Ge.drop))) rfl Try.call30 (by repeat first | exact .nil | exact .z | apply Pk.s | apply Tk.cons) rfl ?_
            rintro v L' ⟨w44, S44, rfl, hS44, hO44, hwt44, hep44, rfl⟩
            refine ynil' (kthn (hK15 _ _ ?_))
            clear hK15
            refine cseq ?_; intro K16 hK16
            refine cseq ?_; intro K17 hK17
            refine creg ?_
            refine y (ev_move rfl) rfl ?_
            refine y (ev_nil rfl) rfl ?_
            refine y (ev_fieldAddr 4 rfl Try.underlying31 rfl Try.sizeOf4) rfl ?_
            skip
            · skip
              refine y (ev_load rfl Try.isAgg4 (by repeat first | exact .z | apply In.s) rfl) rfl ?_
              refine y (ev_move rfl) rfl ?_
              refine yg1 rfl rfl ?_
              refine y (ev_move rfl) rfl ?_
              refine yg1 rfl rfl ?_
              refine y (ev_nil rfl) rfl ?_
              refine yg1 rfl rfl ?_
              refine y (ev_fieldAddr 1 rfl Try.underlying31 rfl Try.sizeOf28) rfl ?_
              refine yg1 rfl rfl ?_
              refine y (ev_load rfl Try.isAgg28 (by repeat first | exact .z | apply In.s) rfl) rfl ?_
              refine yg1 rfl rfl ?_
              refine ycall (wEpoch) rfl Try.call18 (by repeat first | exact .nil | exact .z | apply Pk.s | apply Tk.cons) rfl ?_
              rintro v L' ⟨rfl, rfl⟩
              refine yg1 rfl rfl ?_
              refine y (ev_move rfl) rfl ?_
              refine yg1 rfl rfl ?_
              refine y (ev_lss rfl rfl) rfl ?_
              rw [show decide (S44.W.f.epoch < ep) = false by simp; omega]
              refine y (ev_pick0 rfl rfl) rfl ?_
              refine ynil' (kthn (hK17 _ _ ?_))
              clear hK17
              refine ccond0 rfl ?_
              refine cskip' (kthn (hK16 _ _ ?_))
              clear hK16
              refine creg ?_
              refine y (ev_move rfl) rfl ?_
              refine y (ev_nil rfl) rfl ?_
              refine y (ev_fieldAddr 1 rfl Try.underlying31 rfl Try.sizeOf28) rfl ?_
              refine y (ev_load rfl Try.isAgg28 (by repeat first | exact .z | apply In.s) rfl) rfl ?_
              refine ycall (wEpoch) rfl Try.call18 (by repeat first | exact .nil | exact .z | apply Pk.s | apply Tk.cons) rfl ?_
              rintro v L' ⟨rfl, rfl⟩
              refine y (ev_assign rfl) rfl ?_
              refine ynil' (kbn (kthn (hK11 _ _ ?_)))
              clear hK11
              refine creg ?_
              refine y (ev_move rfl) rfl ?_
              refine y (ev_add rfl rfl) rfl ?_
              rw [show IntKind.i64.wrap ((k:Int) + 1) = ((k+1 : Nat) : Int) by rw [wr (by omega) (by omega)]; rfl]
              refine y (ev_assign rfl) rfl ?_
              refine ynil' (kthn ?_)
              exact hL1 ((k + 1, S44.W.f.epoch, S44)) (⟨hS44, hO44, hwt44, Int.le_refl _, by dsimp only; omega, by dsimp only; omega⟩) (by dsimp only; omega) _ _ (by repeat first | exact sub_nil | refine sub_cons rfl ?_ | refine sub_cons' rfl (by simp) ?_) (by repeat first | exact .refl | exact .nil | exact .z | apply Pk.s | refine Ge.e ?_ | apply Ge.pick | apply Ge.drop)
      · (try simp only [decide_eq_true_eq, beq_iff_eq, beq_eq_false_iff_ne, decide_eq_decide, decide_eq_false_iff_not, Bool.not_eq_true', Bool.not_eq_false', Bool.not_eq_true, Bool.not_eq_false, Bool.not_not, ne_eq, Option.isNone_some, Option.isSome_some, Option.isNone_none, Option.isSome_none] at h19)
        refine cexit (kthx (kthx (kbx (kthn ?_))))
        exact ksub (by repeat first | exact sub_nil | refine sub_cons rfl ?_ | refine sub_cons' rfl (by simp) ?_) (by repeat first | exact .refl | exact .nil | exact .z | apply Pk.s | refine Ge.e ?_ | apply Ge.pick | apply Ge.drop) (hJ1 ⟨k, ep, S⟩ ⟨hI1o, by first | trivial | omega⟩)
    · (try simp only [decide_eq_true_eq, beq_iff_eq, beq_eq_false_iff_ne, decide_eq_decide, decide_eq_false_iff_not, Bool.not_eq_true', Bool.not_eq_false', Bool.not_eq_true, Bool.not_eq_false, Bool.not_not, ne_eq, Option.isNone_some, Option.isSome_some, Option.isNone_none, Option.isSome_none] at h15)
      refine yg0 rfl rfl rfl rfl ?_
      refine yg0 rfl rfl rfl rfl ?_
      refine y (ev_pick0 rfl rfl) rfl ?_
      refine ynil' (kthn (hK10 _ _ ?_))
      clear hK10
      refine ccond0 rfl ?_
      refine cexit (kthx (kthx (kbx (kthn ?_))))
      exact ksub (by repeat first | exact sub_nil | refine sub_cons rfl ?_ | refine sub_cons' rfl (by simp) ?_) (by repeat first | exact .refl | exact .nil | exact .z | apply Pk.s | refine Ge.e ?_ | apply Ge.pick | apply Ge.drop) (hJ1 ⟨k, ep, S⟩ ⟨hI1o, by first | trivial | omega⟩)
end W
end Go.Proofs
