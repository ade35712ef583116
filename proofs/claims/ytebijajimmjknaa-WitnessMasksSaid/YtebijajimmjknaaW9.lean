/- A part of the proof: contracts and plain lemmas, each without conditions beyond those that it names. -/
import Derived.Test.YtebijajimmjknaaW7
import Derived.Test.YtebijajimmjknaaGC
import Derived.Test.YtebijajimmjknaaGH
set_option linter.unusedVariables false
set_option linter.unusedSimpArgs false
set_option linter.constructorNameAsVariable false

namespace Go.Proofs
open Go Go.Sl
namespace W
set_option linter.unusedVariables false
theorem lLarge [Env] {R : List Seg} {x : ActW} (hx : x.ok R) : Con Try.prog 29 [.agg x.cells.toArray] [] R (fun u L' => ∃ b, u = .bool b ∧ (b = false → x.ks.length ≤ 600) ∧ L' = []) := by
  have hkk := hx.keeps
  have hkl := hkk.lenVal
  refine con_enter Try.func29 Try.ntmps29 rfl rfl ?_
  refine cseq ?_; intro K1 hK1
  refine creg ?_
  refine ya (ac_box (vs := x.cells) rfl rfl) rfl ?_
  rintro v L' ⟨b1, rfl, rfl⟩
  refine y (ev_assign rfl) rfl ?_
  refine ynil' (kthn (hK1 _ _ ?_))
  clear hK1
  refine cseq ?_; intro K2 hK2
  refine creg ?_
  refine y (ev_fieldAddr 16 rfl Try.underlying64 rfl Try.sizeOf9) rfl ?_
  refine y (ev_load rfl Try.isAgg9 (by repeat first | exact .z | apply In.s) rfl) rfl ?_
  first
    | refine y (ev_lenStr rfl Try.underlying9) rfl ?_
    | refine y (ev_lenS rfl Try.underlying9) rfl ?_
  refine y (ev_gtr rfl rfl) rfl ?_
  refine y (ev_move rfl) rfl ?_
  refine ysplit 7 rfl (fun h8 => ?_) (fun h8 => ?_)
  · (try simp only [decide_eq_true_eq, beq_iff_eq, beq_eq_false_iff_ne, decide_eq_decide, decide_eq_false_iff_not, Bool.not_eq_true', Bool.not_eq_false', Bool.not_eq_true, Bool.not_eq_false, Bool.not_not, ne_eq, Option.isNone_some, Option.isSome_some, Option.isNone_none, Option.isSome_none] at h8)
    refine yg0 rfl rfl rfl rfl ?_
    refine yg0 rfl rfl rfl rfl ?_
    refine yg0 rfl rfl rfl rfl ?_
    refine yg0 rfl rfl rfl rfl ?_
    refine y (ev_pick1 rfl rfl) rfl ?_
    refine y (ev_move rfl) rfl ?_
    refine yg0 rfl rfl rfl rfl ?_
    refine yg0 rfl rfl rfl rfl ?_
    refine yg0 rfl rfl rfl rfl ?_
    refine yg0 rfl rfl rfl rfl ?_
    refine yg0 rfl rfl rfl rfl ?_
    refine y (ev_pick1 rfl rfl) rfl ?_
    refine y (ev_move rfl) rfl ?_
    refine yg0 rfl rfl rfl rfl ?_
    refine yg0 rfl rfl rfl rfl ?_
    refine yg0 rfl rfl rfl rfl ?_
    refine yg0 rfl rfl rfl rfl ?_
    refine yg0 rfl rfl rfl rfl ?_
    refine y (ev_pick1 rfl rfl) rfl ?_
    refine y (ev_assign rfl) rfl ?_
    refine ynil' (kthn (hK2 _ _ ?_))
    clear hK2
    refine cret ?_
    first
      | (exfalso; omega; done)
      | (refine kretv Try.results29 rfl (L1 := [] ++ R) (by repeat first | exact .refl | exact .nil | exact .z | apply Pk.s | refine Ge.e ?_ | apply Ge.pick | apply Ge.drop) ?_
         exact ⟨_, ⟨_, rfl, fun h => by first | omega | (simp at h; done) | (simp at h; omega), rfl⟩, rfl⟩)
  · (try simp only [decide_eq_true_eq, beq_iff_eq, beq_eq_false_iff_ne, decide_eq_decide, decide_eq_false_iff_not, Bool.not_eq_true', Bool.not_eq_false', Bool.not_eq_true, Bool.not_eq_false, Bool.not_not, ne_eq, Option.isNone_some, Option.isSome_some, Option.isNone_none, Option.isSome_none] at h8)
    refine yg1 rfl rfl ?_
    refine y (ev_fieldAddr 17 rfl Try.underlying64 rfl Try.sizeOf62) rfl ?_
    refine yg1 rfl rfl ?_
    refine y (ev_load rfl Try.isAgg62 (by repeat first | exact .z | apply In.s) rfl) rfl ?_
    refine yg1 rfl rfl ?_
    refine y (ev_lenV rfl Try.underlying62 hkl) rfl ?_
    refine yg1 rfl rfl ?_
    refine y (ev_gtr rfl rfl) rfl ?_
    refine y (ev_pick0 rfl rfl) rfl ?_
    refine y (ev_move rfl) rfl ?_
    refine ysplit 13 rfl (fun h21 => ?_) (fun h21 => ?_)
    · (try simp only [decide_eq_true_eq, beq_iff_eq, beq_eq_false_iff_ne, decide_eq_decide, decide_eq_false_iff_not, Bool.not_eq_true', Bool.not_eq_false', Bool.not_eq_true, Bool.not_eq_false, Bool.not_not, ne_eq, Option.isNone_some, Option.isSome_some, Option.isNone_none, Option.isSome_none] at h21)
      refine yg0 rfl rfl rfl rfl ?_
      refine yg0 rfl rfl rfl rfl ?_
      refine yg0 rfl rfl rfl rfl ?_
      refine yg0 rfl rfl rfl rfl ?_
      refine yg0 rfl rfl rfl rfl ?_
      refine y (ev_pick1 rfl rfl) rfl ?_
      refine y (ev_move rfl) rfl ?_
      refine yg0 rfl rfl rfl rfl ?_
      refine yg0 rfl rfl rfl rfl ?_
      refine yg0 rfl rfl rfl rfl ?_
      refine yg0 rfl rfl rfl rfl ?_
      refine yg0 rfl rfl rfl rfl ?_
      refine y (ev_pick1 rfl rfl) rfl ?_
      refine y (ev_assign rfl) rfl ?_
      refine ynil' (kthn (hK2 _ _ ?_))
      clear hK2
      refine cret ?_
      first
        | (exfalso; omega; done)
        | (refine kretv Try.results29 rfl (L1 := [] ++ R) (by repeat first | exact .refl | exact .nil | exact .z | apply Pk.s | refine Ge.e ?_ | apply Ge.pick | apply Ge.drop) ?_
           exact ⟨_, ⟨_, rfl, fun h => by first | omega | (simp at h; done) | (simp at h; omega), rfl⟩, rfl⟩)
    · (try simp only [decide_eq_true_eq, beq_iff_eq, beq_eq_false_iff_ne, decide_eq_decide, decide_eq_false_iff_not, Bool.not_eq_true', Bool.not_eq_false', Bool.not_eq_true, Bool.not_eq_false, Bool.not_not, ne_eq, Option.isNone_some, Option.isSome_some, Option.isNone_none, Option.isSome_none] at h21)
      refine yg1 rfl rfl ?_
      refine y (ev_fieldAddr 3 rfl Try.underlying64 rfl Try.sizeOf35) rfl ?_
      refine yg1 rfl rfl ?_
      refine y (ev_fieldAddr 11 rfl Try.underlying35 rfl Try.sizeOf9) rfl ?_
      refine yg1 rfl rfl ?_
      refine y (ev_load rfl Try.isAgg9 (by repeat first | exact .z | apply In.s) rfl) rfl ?_
      refine yg1 rfl rfl ?_
      first
        | refine y (ev_lenStr rfl Try.underlying9) rfl ?_
        | refine y (ev_lenS rfl Try.underlying9) rfl ?_
      refine yg1 rfl rfl ?_
      refine y (ev_gtr rfl rfl) rfl ?_
      refine y (ev_pick0 rfl rfl) rfl ?_
      refine y (ev_move rfl) rfl ?_
      refine ysplit 20 rfl (fun h33 => ?_) (fun h33 => ?_)
      · (try simp only [decide_eq_true_eq, beq_iff_eq, beq_eq_false_iff_ne, decide_eq_decide, decide_eq_false_iff_not, Bool.not_eq_true', Bool.not_eq_false', Bool.not_eq_true, Bool.not_eq_false, Bool.not_not, ne_eq, Option.isNone_some, Option.isSome_some, Option.isNone_none, Option.isSome_none] at h33)
        refine yg0 rfl rfl rfl rfl ?_
        refine yg0 rfl rfl rfl rfl ?_
        refine yg0 rfl rfl rfl rfl ?_
        refine yg0 rfl rfl rfl rfl ?_
        refine yg0 rfl rfl rfl rfl ?_
        refine y (ev_pick1 rfl rfl) rfl ?_
        refine y (ev_assign rfl) rfl ?_
        refine ynil' (kthn (hK2 _ _ ?_))
        clear hK2
        refine cret ?_
        first
          | (exfalso; omega; done)
          | (refine kretv Try.results29 rfl (L1 := [] ++ R) (by repeat first | exact .refl | exact .nil | exact .z | apply Pk.s | refine Ge.e ?_ | apply Ge.pick | apply Ge.drop) ?_
             exact ⟨_, ⟨_, rfl, fun h => by first | omega | (simp at h; done) | (simp at h; omega), rfl⟩, rfl⟩)
      · (try simp only [decide_eq_true_eq, beq_iff_eq, beq_eq_false_iff_ne, decide_eq_decide, decide_eq_false_iff_not, Bool.not_eq_true', Bool.not_eq_false', Bool.not_eq_true, Bool.not_eq_false, Bool.not_not, ne_eq, Option.isNone_some, Option.isSome_some, Option.isNone_none, Option.isSome_none] at h33)
        refine yg1 rfl rfl ?_
        refine y (ev_fieldAddr 3 rfl Try.underlying64 rfl Try.sizeOf35) rfl ?_
        refine yg1 rfl rfl ?_
        refine y (ev_fieldAddr 12 rfl Try.underlying35 rfl Try.sizeOf9) rfl ?_
        refine yg1 rfl rfl ?_
        refine y (ev_load rfl Try.isAgg9 (by repeat first | exact .z | apply In.s) rfl) rfl ?_
        refine yg1 rfl rfl ?_
        first
          | refine y (ev_lenStr rfl Try.underlying9) rfl ?_
          | refine y (ev_lenS rfl Try.underlying9) rfl ?_
        refine yg1 rfl rfl ?_
        refine y (ev_gtr rfl rfl) rfl ?_
        refine y (ev_pick0 rfl rfl) rfl ?_
        refine y (ev_assign rfl) rfl ?_
        refine ynil' (kthn (hK2 _ _ ?_))
        clear hK2
        refine cret ?_
        first
          | (exfalso; omega; done)
          | (refine kretv Try.results29 rfl (L1 := [] ++ R) (by repeat first | exact .refl | exact .nil | exact .z | apply Pk.s | refine Ge.e ?_ | apply Ge.pick | apply Ge.drop) ?_
             exact ⟨_, ⟨_, rfl, fun h => by first | omega | (simp at h; done) | (simp at h; omega), rfl⟩, rfl⟩)
theorem lDo [Env] {R : List Seg} {l s c mb n : Nat} {q : Q3} {wt : Int} {W : WitM} {D : Dev} {g : Int → Option Int} {bad : Bool} {x : ActW} {kv : Kv} (hW : W.ok D) (h2 : D.l.length = 2) (hO : OwnOk kv g) (hwt : W.wait = wt) (hk : x.ks.length ≤ 600) (hx : x.ok R) :
    Con Try.prog 30 [ptr l, .agg x.cells.toArray] [lifeP l q (ptr s) wt mb bad, ownM mb kv n, witP s c W, celP c q W.c, dev q D] R
      (fun u L' => ∃ kv' n' s' c', u = .tuple #[.agg (LifeM.act ⟨W, D, g, bad⟩ x).1.1.cells.toArray, .bool (LifeM.act ⟨W, D, g, bad⟩ x).1.2] ∧ OwnOk kv' (LifeM.act ⟨W, D, g, bad⟩ x).2.g ∧ L' = [lifeP l q (ptr s') wt mb (LifeM.act ⟨W, D, g, bad⟩ x).2.bad, ownM mb kv' n', witP s' c' (LifeM.act ⟨W, D, g, bad⟩ x).2.W, celP c' q (LifeM.act ⟨W, D, g, bad⟩ x).2.W.c, dev q (LifeM.act ⟨W, D, g, bad⟩ x).2.D]) := by
  subst hwt
  have hkk := hx.keeps
  have hxn := hx.n
  obtain ⟨ht1, ht2, ht3⟩ := tmod50 x.n
  obtain ⟨r, hr0⟩ : ∃ r, W.take D x.fr x.m = r := ⟨_, rfl⟩
  refine con_enter Try.func30 Try.ntmps30 rfl rfl ?_
  refine cseq ?_; intro K1 hK1
  refine creg ?_
  refine ya (ac_box (vs := x.cells) rfl rfl) rfl ?_
  rintro v L' ⟨b3, rfl, rfl⟩
  refine ya (ac_alloc Try.zeroValue35 rfl) rfl ?_
  rintro v L' ⟨b4, rfl, rfl⟩
  refine y (ev_assign rfl) rfl ?_
  refine ynil' (kthn (hK1 _ _ ?_))
  clear hK1
  refine cseq ?_; intro K2 hK2
  refine cseq ?_; intro K3 hK3
  refine creg ?_
  refine y (ev_fieldAddr 0 rfl Try.underlying64 rfl Try.sizeOf3) rfl ?_
  refine y (ev_load rfl Try.isAgg3 (by repeat first | exact .z | apply In.s) rfl) rfl ?_
  refine ynil' (kthn (hK3 _ _ ?_))
  clear hK3
  refine cblock ?_
  refine cseq ?_; intro K4 hK4
  refine creg ?_
  refine y (ev_eql rfl rfl) rfl ?_
  refine y (ev_assign rfl) rfl ?_
  refine ynil' (kthn (hK4 _ _ ?_))
  clear hK4
  refine ccond rfl (fun h50 => ?_) (fun h50 => ?_)
  · (try simp only [decide_eq_true_eq, beq_iff_eq, beq_eq_false_iff_ne, decide_eq_decide, decide_eq_false_iff_not, Bool.not_eq_true', Bool.not_eq_false', Bool.not_eq_true, Bool.not_eq_false, Bool.not_not, ne_eq, Option.isNone_some, Option.isSome_some, Option.isNone_none, Option.isSome_none] at h50)
    refine cseq ?_; intro K5 hK5
    have hJr4 : ∀ z : Nat, (True) → Sk 167 K5 ([(7, .bool r.1.2), (6, ptr z), (4, ptr b4), (3, ptr b3), (0, ptr l)]) ([sc z r.1.1.cells 35, sc b3 x.cells 64, sc b4 MsgM.zero.cells 35, lifeP l q (ptr s) W.wait mb bad, ownM mb kv n, witP s c r.2.1, celP c q r.2.1.c, dev q r.2.2] ++ R) := by
      rintro b6 hIr4
      refine hK5 _ _ ?_
      refine cseq ?_; intro K6 hK6
      refine cseq ?_; intro K7 hK7
      refine creg ?_
      refine y (ev_move rfl) rfl ?_
      refine y (ev_move rfl) rfl ?_
      refine ysplit 30 rfl (fun h53 => ?_) (fun h53 => ?_)
      · (try simp only [decide_eq_true_eq, beq_iff_eq, beq_eq_false_iff_ne, decide_eq_decide, decide_eq_false_iff_not, Bool.not_eq_true', Bool.not_eq_false', Bool.not_eq_true, Bool.not_eq_false, Bool.not_not, ne_eq, Option.isNone_some, Option.isSome_some, Option.isNone_none, Option.isSome_none] at h53)
        refine yg1 rfl rfl ?_
        refine y (ev_fieldAddr 0 rfl Try.underlying35 rfl Try.sizeOf3) rfl ?_
        refine yg1 rfl rfl ?_
        refine y (ev_load rfl Try.isAgg3 (by repeat first | exact .z | apply In.s) rfl) rfl ?_
        refine yg1 rfl rfl ?_
        refine y (ev_eql rfl rfl) rfl ?_
        refine y (ev_pick1 rfl rfl) rfl ?_
        refine y (ev_move rfl) rfl ?_
        refine ysplit 35 rfl (fun h59 => ?_) (fun h59 => ?_)
        · (try simp only [decide_eq_true_eq, beq_iff_eq, beq_eq_false_iff_ne, decide_eq_decide, decide_eq_false_iff_not, Bool.not_eq_true', Bool.not_eq_false', Bool.not_eq_true, Bool.not_eq_false, Bool.not_not, ne_eq, Option.isNone_some, Option.isSome_some, Option.isNone_none, Option.isSome_none] at h59)
          refine yg1 rfl rfl ?_
          refine y (ev_fieldAddr 6 rfl Try.underlying35 rfl Try.sizeOf32) rfl ?_
          refine yg1 rfl rfl ?_
          refine y (ev_load rfl Try.isAgg32 (by repeat first | exact .z | apply In.s) rfl) rfl ?_
          refine yg1 rfl rfl ?_
          refine y (ev_eql rfl rfl) rfl ?_
          refine y (ev_pick1 rfl rfl) rfl ?_
          refine ynil' (kthn (hK7 _ _ ?_))
          clear hK7
          refine ccond rfl (fun h64 => ?_) (fun h64 => ?_)
          · (try simp only [decide_eq_true_eq, beq_iff_eq, beq_eq_false_iff_ne, decide_eq_decide, decide_eq_false_iff_not, Bool.not_eq_true', Bool.not_eq_false', Bool.not_eq_true, Bool.not_eq_false, Bool.not_not, ne_eq, Option.isNone_some, Option.isSome_some, Option.isNone_none, Option.isSome_none] at h64)
            refine cseq ?_; intro K8 hK8
            refine cdraw 11 [(0, true), (1, true), (2, true), (3, true), (4, true), (5, true), (6, true), (7, true), (8, true), (9, true), (10, true)] (_) Try.mixed (by kernel_rfl) .refl ?_
            have hgr : grantB r.1 = true := by unfold grantB; simp_all
            have hac := act_grant (g := g) (bad := bad) (by omega) hr0 hgr
            refine hr rfl (ev_move rfl) rfl ?_
            refine hr rfl (ev_nil rfl) rfl ?_
            refine hr rfl (ev_fieldAddr 3 rfl Try.underlying31 rfl Try.sizeOf29) rfl ?_
            refine hr rfl (ev_load rfl Try.isAgg29 (by repeat first | exact .z | apply In.s) rfl) rfl ?_
            refine hr rfl (ev_fieldAddr 1 rfl Try.underlying35 rfl Try.sizeOf2) rfl ?_
            refine hr rfl (ev_load rfl Try.isAgg2 (by repeat first | exact .z | apply In.s) rfl) rfl ?_
            refine hr rfl (ev_lookup2 rfl rfl Try.underlying29 Try.underlying2 Try.zeroValue3 (by repeat first | exact .z | apply In.s)) rfl ?_
            rw [hO.get, own_val, own_some]
            refine hr rfl (ev_move rfl) rfl ?_
            refine hr rfl (ev_extract rfl rfl) rfl ?_
            refine hr rfl (ev_extract rfl rfl) rfl ?_
            refine hr rfl (ev_assign rfl) rfl ?_
            refine hnil ?_
            refine y (ev_assign rfl) rfl ?_
            refine hnoP' (kthn (hK8 _ _ ?_))
            clear hK8
            refine cseq ?_; intro K9 hK9
            have hJr7 : ∀ z : Bool, (z = badNow g bad r.1.1 x.fr) → Sk 167 K9 ([(7, .bool r.1.2), (6, ptr b6), (4, ptr b4), (3, ptr b3), (0, ptr l)]) ([sc b6 r.1.1.cells 35, sc b3 x.cells 64, sc b4 MsgM.zero.cells 35, lifeP l q (ptr s) W.wait mb z, ownM mb kv n, witP s c r.2.1, celP c q r.2.1.c, dev q r.2.2] ++ R) := by
              rintro z hIr7
              refine hK9 _ _ ?_
              have hbz := hIr7; subst hbz; have hO2 := hO.put n r.1.1.epoch x.fr
              refine cdraw 8 [(0, true), (1, true), (2, true), (3, true), (4, true), (5, true), (6, true), (7, true)] (_) Try.mixed (by kernel_rfl) .refl ?_
              refine hr rfl (ev_move rfl) rfl ?_
              refine hr rfl (ev_nil rfl) rfl ?_
              refine hr rfl (ev_fieldAddr 3 rfl Try.underlying31 rfl Try.sizeOf29) rfl ?_
              refine hr rfl (ev_load rfl Try.isAgg29 (by repeat first | exact .z | apply In.s) rfl) rfl ?_
              refine hr rfl (ev_fieldAddr 1 rfl Try.underlying35 rfl Try.sizeOf2) rfl ?_
              refine hr rfl (ev_load rfl Try.isAgg2 (by repeat first | exact .z | apply In.s) rfl) rfl ?_
              refine hr rfl (ev_fieldAddr 2 rfl Try.underlying64 rfl Try.sizeOf3) rfl ?_
              refine hr rfl (ev_load rfl Try.isAgg3 (by repeat first | exact .z | apply In.s) rfl) rfl ?_
              refine hnil ?_
              refine ya0 (ac_mapUpdate rfl rfl rfl Try.underlying29 Try.underlying2 ?uniq85 (by repeat first | exact .z | apply Rp.s)) ?_
              case uniq85 => exact hO.un
              rintro v L' ⟨rfl, rfl⟩
              refine hnoP' (kthn (hK6 _ _ ?_))
              clear hK6
              refine cseq ?_; intro K10 hK10
              refine creg ?_
              refine y (ev_loadAll rfl Try.isAgg35 Try.sizeOf35 (by repeat first | exact .z | apply In.s) (by first | rfl | assumption | (simp [*]; done) | (simp [*]; omega))) rfl ?_
              refine y (ev_move rfl) rfl ?_
              refine ya0 (ac_storeN rfl rfl (msg_one _) Try.sizeOf35 (by repeat first | exact .z | apply Rp.s) rfl (by simp [MsgM.cells]) rfl) ?_
              rintro v L' ⟨rfl, rfl⟩
              refine y (ev_assign rfl) rfl ?_
              refine ynil' (kthn (hK10 _ _ ?_))
              clear hK10
              refine cret (kbr (kthr ?_))
              first
                | (exfalso; omega; done)
                | (refine kretct Try.results30 rfl rfl Try.isAgg35 Try.sizeOf35 (by repeat first | exact .z | apply In.s) rfl (L1 := [lifeP l q (ptr s) W.wait mb _, ownM mb _ _, witP s c _, celP c q _, dev q _] ++ R) (by repeat first | exact .refl | exact .nil | exact .z | apply Pk.s | refine Ge.e ?_ | apply Ge.pick | apply Ge.drop) ?_
                   rw [hac]; exact ⟨_, ⟨_, _, s, c, rfl, hO2, rfl⟩, rfl⟩)
                | (refine kretct Try.results30 rfl rfl Try.isAgg35 Try.sizeOf35 (by repeat first | exact .z | apply In.s) rfl (L1 := [lifeP l q (ptr s) W.wait mb _, ownM mb _ _, witP s c _, celP c q _, dev q _] ++ R) (by repeat first | exact .refl | exact .nil | exact .z | apply Pk.s | refine Ge.e ?_ | apply Ge.pick | apply Ge.drop) ?_
                   rw [act_nogrant (g := g) (bad := bad) (by omega) hr0 (by unfold grantB; simp_all)]; exact ⟨_, ⟨_, _, s, c, rfl, hO, rfl⟩, rfl⟩)
            clear hK9
            refine creg ?_
            cases bad
            · skip
              refine y (ev_move rfl) rfl ?_
              refine y (ev_move rfl) rfl ?_
              refine y (ev_nil rfl) rfl ?_
              refine y (ev_fieldAddr 4 rfl Try.underlying31 rfl Try.sizeOf4) rfl ?_
              refine y (ev_load rfl Try.isAgg4 (by repeat first | exact .z | apply In.s) rfl) rfl ?_
              refine y (ev_move rfl) rfl ?_
              refine yg1 rfl rfl ?_
              refine y (ev_move rfl) rfl ?_
              refine yg1 rfl rfl ?_
              refine y (ev_move rfl) rfl ?_
              refine ysplit 57 rfl (fun h98 => ?_) (fun h98 => ?_)
              · (try simp only [decide_eq_true_eq, beq_iff_eq, beq_eq_false_iff_ne, decide_eq_decide, decide_eq_false_iff_not, Bool.not_eq_true', Bool.not_eq_false', Bool.not_eq_true, Bool.not_eq_false, Bool.not_not, ne_eq, Option.isNone_some, Option.isSome_some, Option.isNone_none, Option.isSome_none] at h98)
                refine yg1 rfl rfl ?_
                refine y (ev_move rfl) rfl ?_
                refine yg1 rfl rfl ?_
                refine y (ev_fieldAddr 2 rfl Try.underlying64 rfl Try.sizeOf3) rfl ?_
                refine yg1 rfl rfl ?_
                refine y (ev_load rfl Try.isAgg3 (by repeat first | exact .z | apply In.s) rfl) rfl ?_
                refine yg1 rfl rfl ?_
                refine y (ev_neq rfl rfl) rfl ?_
                refine yg1 rfl rfl ?_
                refine y (ev_pick1 rfl rfl) rfl ?_
                refine y (ev_pick0 rfl rfl) rfl ?_
                refine y (ev_move rfl) rfl ?_
                refine ysplit 64 rfl (fun h106 => ?_) (fun h106 => ?_)
                · (try simp only [decide_eq_true_eq, beq_iff_eq, beq_eq_false_iff_ne, decide_eq_decide, decide_eq_false_iff_not, Bool.not_eq_true', Bool.not_eq_false', Bool.not_eq_true, Bool.not_eq_false, Bool.not_not, ne_eq, Option.isNone_some, Option.isSome_some, Option.isNone_none, Option.isSome_none] at h106)
                  refine yg0 rfl rfl rfl rfl ?_
                  refine yg0 rfl rfl rfl rfl ?_
                  refine yg0 rfl rfl rfl rfl ?_
                  refine yg0 rfl rfl rfl rfl ?_
                  refine yg0 rfl rfl rfl rfl ?_
                  refine y (ev_pick1 rfl rfl) rfl ?_
                  refine y (ev_move rfl) rfl ?_
                  refine yg0 rfl rfl rfl rfl ?_
                  refine yg0 rfl rfl rfl rfl ?_
                  refine yg0 rfl rfl rfl rfl ?_
                  refine y (ev_pick1 rfl rfl) rfl ?_
                  refine y (ev_nil rfl) rfl ?_
                  refine y (ev_fieldAddr 4 rfl Try.underlying31 rfl Try.sizeOf4) rfl ?_
                  refine ya0 (ac_store rfl rfl (by first | rfl | exact svVal_one _ _ | assumption) Try.sizeOf4 (by repeat first | exact .z | apply Rp.s) rfl rfl) ?_
                  rintro v L' ⟨rfl, rfl⟩
                  refine ynil' (kthn ?_)
                  exact ksub (by repeat first | exact sub_nil | refine sub_cons rfl ?_ | refine sub_cons' rfl (by simp) ?_) (by repeat first | exact .refl | exact .nil | exact .z | apply Pk.s | refine Ge.e ?_ | apply Ge.pick | apply Ge.drop) (hJr7 _ (by unfold badNow; simp_all))
                · (try simp only [decide_eq_true_eq, beq_iff_eq, beq_eq_false_iff_ne, decide_eq_decide, decide_eq_false_iff_not, Bool.not_eq_true', Bool.not_eq_false', Bool.not_eq_true, Bool.not_eq_false, Bool.not_not, ne_eq, Option.isNone_some, Option.isSome_some, Option.isNone_none, Option.isSome_none] at h106)
                  refine yg1 rfl rfl ?_
                  refine y (ev_fieldAddr 5 rfl Try.underlying35 rfl Try.sizeOf3) rfl ?_
                  refine yg1 rfl rfl ?_
                  refine y (ev_load rfl Try.isAgg3 (by repeat first | exact .z | apply In.s) rfl) rfl ?_
                  refine yg1 rfl rfl ?_
                  refine y (ev_fieldAddr 2 rfl Try.underlying64 rfl Try.sizeOf3) rfl ?_
                  refine yg1 rfl rfl ?_
                  refine y (ev_load rfl Try.isAgg3 (by repeat first | exact .z | apply In.s) rfl) rfl ?_
                  refine yg1 rfl rfl ?_
                  refine y (ev_neq rfl rfl) rfl ?_
                  refine y (ev_pick0 rfl rfl) rfl ?_
                  refine y (ev_move rfl) rfl ?_
                  refine ysplit 71 rfl (fun h120 => ?_) (fun h120 => ?_)
                  · (try simp only [decide_eq_true_eq, beq_iff_eq, beq_eq_false_iff_ne, decide_eq_decide, decide_eq_false_iff_not, Bool.not_eq_true', Bool.not_eq_false', Bool.not_eq_true, Bool.not_eq_false, Bool.not_not, ne_eq, Option.isNone_some, Option.isSome_some, Option.isNone_none, Option.isSome_none] at h120)
                    refine yg0 rfl rfl rfl rfl ?_
                    refine yg0 rfl rfl rfl rfl ?_
                    refine yg0 rfl rfl rfl rfl ?_
                    refine y (ev_pick1 rfl rfl) rfl ?_
                    refine y (ev_nil rfl) rfl ?_
                    refine y (ev_fieldAddr 4 rfl Try.underlying31 rfl Try.sizeOf4) rfl ?_
                    refine ya0 (ac_store rfl rfl (by first | rfl | exact svVal_one _ _ | assumption) Try.sizeOf4 (by repeat first | exact .z | apply Rp.s) rfl rfl) ?_
                    rintro v L' ⟨rfl, rfl⟩
                    refine ynil' (kthn ?_)
                    exact ksub (by repeat first | exact sub_nil | refine sub_cons rfl ?_ | refine sub_cons' rfl (by simp) ?_) (by repeat first | exact .refl | exact .nil | exact .z | apply Pk.s | refine Ge.e ?_ | apply Ge.pick | apply Ge.drop) (hJr7 _ (by unfold badNow; simp_all))
                  · (try simp only [decide_eq_true_eq, beq_iff_eq, beq_eq_false_iff_ne, decide_eq_decide, decide_eq_false_iff_not, Bool.not_eq_true', Bool.not_eq_false', Bool.not_eq_true, Bool.not_eq_false, Bool.not_not, ne_eq, Option.isNone_some, Option.isSome_some, Option.isNone_none, Option.isSome_none] at h120)
                    refine yg1 rfl rfl ?_
                    refine y (ev_fieldAddr 1 rfl Try.underlying35 rfl Try.sizeOf2) rfl ?_
                    refine yg1 rfl rfl ?_
                    refine y (ev_load rfl Try.isAgg2 (by repeat first | exact .z | apply In.s) rfl) rfl ?_
                    refine yg1 rfl rfl ?_
                    refine y (ev_lss rfl rfl) rfl ?_
                    refine y (ev_pick0 rfl rfl) rfl ?_
                    refine y (ev_nil rfl) rfl ?_
                    refine y (ev_fieldAddr 4 rfl Try.underlying31 rfl Try.sizeOf4) rfl ?_
                    refine ya0 (ac_store rfl rfl (by first | rfl | exact svVal_one _ _ | assumption) Try.sizeOf4 (by repeat first | exact .z | apply Rp.s) rfl rfl) ?_
                    rintro v L' ⟨rfl, rfl⟩
                    refine ynil' (kthn ?_)
                    exact ksub (by repeat first | exact sub_nil | refine sub_cons rfl ?_ | refine sub_cons' rfl (by simp) ?_) (by repeat first | exact .refl | exact .nil | exact .z | apply Pk.s | refine Ge.e ?_ | apply Ge.pick | apply Ge.drop) (hJr7 _ (by unfold badNow; simp_all))
              · (try simp only [decide_eq_true_eq, beq_iff_eq, beq_eq_false_iff_ne, decide_eq_decide, decide_eq_false_iff_not, Bool.not_eq_true', Bool.not_eq_false', Bool.not_eq_true, Bool.not_eq_false, Bool.not_not, ne_eq, Option.isNone_some, Option.isSome_some, Option.isNone_none, Option.isSome_none] at h98)
                refine yg0 rfl rfl rfl rfl ?_
                refine yg0 rfl rfl rfl rfl ?_
                refine yg0 rfl rfl rfl rfl ?_
                refine yg0 rfl rfl rfl rfl ?_
                refine yg1 rfl rfl ?_
                refine y (ev_pick0 rfl rfl) rfl ?_
                refine y (ev_pick0 rfl rfl) rfl ?_
                refine y (ev_move rfl) rfl ?_
                refine yg1 rfl rfl ?_
                refine y (ev_fieldAddr 5 rfl Try.underlying35 rfl Try.sizeOf3) rfl ?_
                refine yg1 rfl rfl ?_
                refine y (ev_load rfl Try.isAgg3 (by repeat first | exact .z | apply In.s) rfl) rfl ?_
                refine yg1 rfl rfl ?_
                refine y (ev_fieldAddr 2 rfl Try.underlying64 rfl Try.sizeOf3) rfl ?_
                refine yg1 rfl rfl ?_
                refine y (ev_load rfl Try.isAgg3 (by repeat first | exact .z | apply In.s) rfl) rfl ?_
                refine yg1 rfl rfl ?_
                refine y (ev_neq rfl rfl) rfl ?_
                refine y (ev_pick0 rfl rfl) rfl ?_
                refine y (ev_move rfl) rfl ?_
                refine ysplit 71 rfl (fun h142 => ?_) (fun h142 => ?_)
                · (try simp only [decide_eq_true_eq, beq_iff_eq, beq_eq_false_iff_ne, decide_eq_decide, decide_eq_false_iff_not, Bool.not_eq_true', Bool.not_eq_false', Bool.not_eq_true, Bool.not_eq_false, Bool.not_not, ne_eq, Option.isNone_some, Option.isSome_some, Option.isNone_none, Option.isSome_none] at h142)
                  refine yg0 rfl rfl rfl rfl ?_
                  refine yg0 rfl rfl rfl rfl ?_
                  refine yg0 rfl rfl rfl rfl ?_
                  refine y (ev_pick1 rfl rfl) rfl ?_
                  refine y (ev_nil rfl) rfl ?_
                  refine y (ev_fieldAddr 4 rfl Try.underlying31 rfl Try.sizeOf4) rfl ?_
                  refine ya0 (ac_store rfl rfl (by first | rfl | exact svVal_one _ _ | assumption) Try.sizeOf4 (by repeat first | exact .z | apply Rp.s) rfl rfl) ?_
                  rintro v L' ⟨rfl, rfl⟩
                  refine ynil' (kthn ?_)
                  exact ksub (by repeat first | exact sub_nil | refine sub_cons rfl ?_ | refine sub_cons' rfl (by simp) ?_) (by repeat first | exact .refl | exact .nil | exact .z | apply Pk.s | refine Ge.e ?_ | apply Ge.pick | apply Ge.drop) (hJr7 _ (by unfold badNow; simp_all))
                · (try simp only [decide_eq_true_eq, beq_iff_eq, beq_eq_false_iff_ne, decide_eq_decide, decide_eq_false_iff_not, Bool.not_eq_true', Bool.not_eq_false', Bool.not_eq_true, Bool.not_eq_false, Bool.not_not, ne_eq, Option.isNone_some, Option.isSome_some, Option.isNone_none, Option.isSome_none] at h142)
                  refine yg1 rfl rfl ?_
                  refine y (ev_fieldAddr 1 rfl Try.underlying35 rfl Try.sizeOf2) rfl ?_
                  refine yg1 rfl rfl ?_
                  refine y (ev_load rfl Try.isAgg2 (by repeat first | exact .z | apply In.s) rfl) rfl ?_
                  refine yg1 rfl rfl ?_
                  refine y (ev_lss rfl rfl) rfl ?_
                  refine y (ev_pick0 rfl rfl) rfl ?_
                  refine y (ev_nil rfl) rfl ?_
                  refine y (ev_fieldAddr 4 rfl Try.underlying31 rfl Try.sizeOf4) rfl ?_
                  refine ya0 (ac_store rfl rfl (by first | rfl | exact svVal_one _ _ | assumption) Try.sizeOf4 (by repeat first | exact .z | apply Rp.s) rfl rfl) ?_
                  rintro v L' ⟨rfl, rfl⟩
                  refine ynil' (kthn ?_)
                  exact ksub (by repeat first | exact sub_nil | refine sub_cons rfl ?_ | refine sub_cons' rfl (by simp) ?_) (by repeat first | exact .refl | exact .nil | exact .z | apply Pk.s | refine Ge.e ?_ | apply Ge.pick | apply Ge.drop) (hJr7 _ (by unfold badNow; simp_all))
            · skip
              refine y (ev_move rfl) rfl ?_
              refine y (ev_move rfl) rfl ?_
              refine y (ev_nil rfl) rfl ?_
              refine y (ev_fieldAddr 4 rfl Try.underlying31 rfl Try.sizeOf4) rfl ?_
              refine y (ev_load rfl Try.isAgg4 (by repeat first | exact .z | apply In.s) rfl) rfl ?_
              refine y (ev_move rfl) rfl ?_
              refine yg0 rfl rfl rfl rfl ?_
              refine yg0 rfl rfl rfl rfl ?_
              refine yg0u rfl rfl rfl ?_
              refine yg0u rfl rfl rfl ?_
              refine yg0u rfl rfl rfl ?_
              refine yg0u rfl rfl rfl ?_
              refine yg0 rfl rfl rfl rfl ?_
              refine y (ev_pick1 rfl rfl) rfl ?_
              refine y (ev_move rfl) rfl ?_
              refine yg0 rfl rfl rfl rfl ?_
              refine yg0 rfl rfl rfl rfl ?_
              refine yg0 rfl rfl rfl rfl ?_
              refine yg0 rfl rfl rfl rfl ?_
              refine yg0 rfl rfl rfl rfl ?_
              refine y (ev_pick1 rfl rfl) rfl ?_
              refine y (ev_move rfl) rfl ?_
              refine yg0 rfl rfl rfl rfl ?_
              refine yg0 rfl rfl rfl rfl ?_
              refine yg0 rfl rfl rfl rfl ?_
              refine y (ev_pick1 rfl rfl) rfl ?_
              refine y (ev_nil rfl) rfl ?_
              refine y (ev_fieldAddr 4 rfl Try.underlying31 rfl Try.sizeOf4) rfl ?_
              refine ya0 (ac_store rfl rfl (by first | rfl | exact svVal_one _ _ | assumption) Try.sizeOf4 (by repeat first | exact .z | apply Rp.s) rfl rfl) ?_
              rintro v L' ⟨rfl, rfl⟩
              refine ynil' (kthn ?_)
              exact ksub (by repeat first | exact sub_nil | refine sub_cons rfl ?_ | refine sub_cons' rfl (by simp) ?_) (by repeat first | exact .refl | exact .nil | exact .z | apply Pk.s | refine Ge.e ?_ | apply Ge.pick | apply Ge.drop) (hJr7 _ (by unfold badNow; simp_all))
          · (try simp only [decide_eq_true_eq, beq_iff_eq, beq_eq_false_iff_ne, decide_eq_decide, decide_eq_false_iff_not, Bool.not_eq_true', Bool.not_eq_false', Bool.not_eq_true, Bool.not_eq_false, Bool.not_not, ne_eq, Option.isNone_some, Option.isSome_some, Option.isNone_none, Option.isSome_none] at h64)
            refine cskip' (kthn (hK6 _ _ ?_))
            clear hK6
            refine cseq ?_; intro K11 hK11
            refine creg ?_
            refine y (ev_loadAll rfl Try.isAgg35 Try.sizeOf35 (by repeat first | exact .z | apply In.s) (by first | rfl | assumption | (simp [*]; done) | (simp [*]; omega))) rfl ?_
            refine y (ev_move rfl) rfl ?_
            refine ya0 (ac_storeN rfl rfl (msg_one _) Try.sizeOf35 (by repeat first | exact .z | apply Rp.s) rfl (by simp [MsgM.cells]) rfl) ?_
            rintro v L' ⟨rfl, rfl⟩
            refine y (ev_assign rfl) rfl ?_
            refine ynil' (kthn (hK11 _ _ ?_))
            clear hK11
            refine cret (kbr (kthr ?_))
            first
              | (exfalso; omega; done)
              | (refine kretct Try.results30 rfl rfl Try.isAgg35 Try.sizeOf35 (by repeat first | exact .z | apply In.s) rfl (L1 := [lifeP l q (ptr s) W.wait mb _, ownM mb _ _, witP s c _, celP c q _, dev q _] ++ R) (by repeat first | exact .refl | exact .nil | exact .z | apply Pk.s | refine Ge.e ?_ | apply Ge.pick | apply Ge.drop) ?_
                 rw [hac]; exact ⟨_, ⟨_, _, s, c, rfl, hO2, rfl⟩, rfl⟩)
              | (refine kretct Try.results30 rfl rfl Try.isAgg35 Try.sizeOf35 (by repeat first | exact .z | apply In.s) rfl (L1 := [lifeP l q (ptr s) W.wait mb _, ownM mb _ _, witP s c _, celP c q _, dev q _] ++ R) (by repeat first | exact .refl | exact .nil | exact .z | apply Pk.s | refine Ge.e ?_ | apply Ge.pick | apply Ge.drop) ?_
                 rw [act_nogrant (g := g) (bad := bad) (by omega) hr0 (by unfold grantB; simp_all)]; exact ⟨_, ⟨_, _, s, c, rfl, hO, rfl⟩, rfl⟩)
        · (try simp only [decide_eq_true_eq, beq_iff_eq, beq_eq_false_iff_ne, decide_eq_decide, decide_eq_false_iff_not, Bool.not_eq_true', Bool.not_eq_false', Bool.not_eq_true, Bool.not_eq_false, Bool.not_not, ne_eq, Option.isNone_some, Option.isSome_some, Option.isNone_none, Option.isSome_none] at h59)
          refine yg0 rfl rfl rfl rfl ?_
          refine yg0 rfl rfl rfl rfl ?_
          refine yg0 rfl rfl rfl rfl ?_
          refine y (ev_pick0 rfl rfl) rfl ?_
          refine ynil' (kthn (hK7 _ _ ?_))
          clear hK7
          refine ccond0 rfl ?_
          refine cskip' (kthn (hK6 _ _ ?_))
          clear hK6
          refine cseq ?_; intro K12 hK12
          refine creg ?_
          refine y (ev_loadAll rfl Try.isAgg35 Try.sizeOf35 (by repeat first | exact .z | apply In.s) (by first | rfl | assumption | (simp [*]; done) | (simp [*]; omega))) rfl ?_
          refine y (ev_move rfl) rfl ?_
          refine ya0 (ac_storeN rfl rfl (msg_one _) Try.sizeOf35 (by repeat first | exact .z | apply Rp.s) rfl (by simp [MsgM.cells]) rfl) ?_
          rintro v L' ⟨rfl, rfl⟩
          refine y (ev_assign rfl) rfl ?_
          refine ynil' (kthn (hK12 _ _ ?_))
          clear hK12
          refine cret (kbr (kthr ?_))
          first
            | (exfalso; omega; done)
            | (refine kretct Try.results30 rfl rfl Try.isAgg35 Try.sizeOf35 (by repeat first | exact .z | apply In.s) rfl (L1 := [lifeP l q (ptr s) W.wait mb _, ownM mb _ _, witP s c _, celP c q _, dev q _] ++ R) (by repeat first | exact .refl | exact .nil | exact .z | apply Pk.s | refine Ge.e ?_ | apply Ge.pick | apply Ge.drop) ?_
               rw [hac]; exact ⟨_, ⟨_, _, s, c, rfl, hO2, rfl⟩, rfl⟩)
            | (refine kretct Try.results30 rfl rfl Try.isAgg35 Try.sizeOf35 (by repeat first | exact .z | apply In.s) rfl (L1 := [lifeP l q (ptr s) W.wait mb _, ownM mb _ _, witP s c _, celP c q _, dev q _] ++ R) (by repeat first | exact .refl | exact .nil | exact .z | apply Pk.s | refine Ge.e ?_ | apply Ge.pick | apply Ge.drop) ?_
               rw [act_nogrant (g := g) (bad := bad) (by omega) hr0 (by unfold grantB; simp_all)]; exact ⟨_, ⟨_, _, s, c, rfl, hO, rfl⟩, rfl⟩)
      · (try simp only [decide_eq_true_eq, beq_iff_eq, beq_eq_false_iff_ne, decide_eq_decide, decide_eq_false_iff_not, Bool.not_eq_true', Bool.not_eq_false', Bool.not_eq_true, Bool.not_eq_false, Bool.not_not, ne_eq, Option.isNone_some, Option.isSome_some, Option.isNone_none, Option.isSome_none] at h53)
        refine yg0 rfl rfl rfl rfl ?_
        refine yg0 rfl rfl rfl rfl ?_
        refine yg0 rfl rfl rfl rfl ?_
        refine y (ev_pick0 rfl rfl) rfl ?_
        refine y (ev_move rfl) rfl ?_
        refine yg0 rfl rfl rfl rfl ?_
        refine yg0 rfl rfl rfl rfl ?_
        refine yg0 rfl rfl rfl rfl ?_
        refine y (ev_pick0 rfl rfl) rfl ?_
        refine ynil' (kthn (hK7 _ _ ?_))
        clear hK7
        refine ccond0 rfl ?_
        refine cskip' (kthn (hK6 _ _ ?_))
        clear hK6
        refine cseq ?_; intro K13 hK13
        refine creg ?_
        refine y (ev_loadAll rfl Try.isAgg35 Try.sizeOf35 (by repeat first | exact .z | apply In.s) (by first | rfl | assumption | (simp [*]; done) | (simp [*]; omega))) rfl ?_
        refine y (ev_move rfl) rfl ?_
        refine ya0 (ac_storeN rfl rfl (msg_one _) Try.sizeOf35 (by repeat first | exact .z | apply Rp.s) rfl (by simp [MsgM.cells]) rfl) ?_
        rintro v L' ⟨rfl, rfl⟩
        refine y (ev_assign rfl) rfl ?_
        refine ynil' (kthn (hK13 _ _ ?_))
        clear hK13
        refine cret (kbr (kthr ?_))
        first
          | (exfalso; omega; done)
          | (refine kretct Try.results30 rfl rfl Try.isAgg35 Try.sizeOf35 (by repeat first | exact .z | apply In.s) rfl (L1 := [lifeP l q (ptr s) W.wait mb _, ownM mb _ _, witP s c _, celP c q _, dev q _] ++ R) (by repeat first | exact .refl | exact .nil | exact .z | apply Pk.s | refine Ge.e ?_ | apply Ge.pick | apply Ge.drop) ?_
             rw [hac]; exact ⟨_, ⟨_, _, s, c, rfl, hO2, rfl⟩, rfl⟩)
          | (refine kretct Try.results30 rfl rfl Try.isAgg35 Try.sizeOf35 (by repeat first | exact .z | apply In.s) rfl (L1 := [lifeP l q (ptr s) W.wait mb _, ownM mb _ _, witP s c _, celP c q _, dev q _] ++ R) (by repeat first | exact .refl | exact .nil | exact .z | apply Pk.s | refine Ge.e ?_ | apply Ge.pick | apply Ge.drop) ?_
             rw [act_nogrant (g := g) (bad := bad) (by omega) hr0 (by unfold grantB; simp_all)]; exact ⟨_, ⟨_, _, s, c, rfl, hO, rfl⟩, rfl⟩)
    clear hK5
    refine cdrawN 14 (.op 0 0 (.op 1 0 (.op 2 0 (.op 3 1 (.op 4 0 (.op 5 1 (.op 6 0 (.op 7 1 (.fork 8 (.op 9 0 (.op 10 0 (.op 11 0 (.op 12 2 (.op 13 2 (.nil)))))) 12 (.op 8 2 (.op 9 0 (.op 10 0 (.op 11 0 (.op 13 2 (.nil))))))))))))))) ([lifeP l q (ptr s) W.wait mb bad, ownM mb kv n, sc b3 x.cells 64, sc b4 MsgM.zero.cells 35] ++ R) Try.mixed (by kernel_rfl) (by repeat first | exact .refl | exact .nil | exact .z | apply Pk.s | refine Ge.e ?_ | apply Ge.pick | apply Ge.drop) ?_
    refine nz rfl (ev_move rfl) rfl ?_
    refine nz rfl (ev_nil rfl) rfl ?_
    refine nz rfl (ev_fieldAddr 1 rfl Try.underlying31 rfl Try.sizeOf28) rfl ?_
    refine nr rfl (ev_load rfl Try.isAgg28 (by repeat first | exact .z | apply In.s) rfl) rfl ?_
    refine nz rfl (ev_fieldAddr 2 rfl Try.underlying64 rfl Try.sizeOf3) rfl ?_
    refine nr rfl (ev_load rfl Try.isAgg3 (by repeat first | exact .z | apply In.s) rfl) rfl ?_
    refine nz rfl (ev_fieldAddr 3 rfl Try.underlying64 rfl Try.sizeOf35) rfl ?_
    refine nr rfl (ev_loadN (u := x.m.cells) rfl Try.isAgg35 Try.sizeOf35 (by repeat first | exact .z | apply In.s) rfl rfl) rfl ?_
    refine nfork ?_ ?_
    · skip
      refine ncall rfl (wTake (m := x.m) ?wok192) rfl Try.call16 (by repeat first | exact .nil | exact .z | apply Pk.s | apply Tk.cons) rfl ?_
      case wok192 => exact hW
      rintro v L' ⟨rfl, rfl⟩; refine ⟨(by repeat first | exact .refl | exact .nil | exact .z | apply Pk.s | refine Ge.e ?_ | apply Ge.pick | apply Ge.drop), ?_⟩
      rw [hr0]
      refine nz rfl (ev_move rfl) rfl ?_
      refine nz rfl (ev_extract rfl rfl) rfl ?_
      refine nz rfl (ev_extract rfl rfl) rfl ?_
      refine na rfl (ac_alloc Try.zeroValue35 rfl) rfl ?_
      rintro v L' ⟨b6, rfl, rfl⟩; refine ⟨(by repeat first | exact .refl | exact .nil | exact .z | apply Pk.s | refine Ge.e ?_ | apply Ge.pick | apply Ge.drop), ?_⟩
      refine naN rfl (ac_storeN rfl rfl (msg_one _) Try.sizeOf35 (by repeat first | exact .z | apply Rp.s) rfl (by simp [MsgM.cells]) rfl) ?_
      rintro v L' ⟨rfl, rfl⟩; refine ⟨(by repeat first | exact .refl | exact .nil | exact .z | apply Pk.s | refine Ge.e ?_ | apply Ge.pick | apply Ge.drop), ?_⟩
      refine nnil ?_
      refine y (ev_assign rfl) rfl ?_
      refine hnoP' (kthn ?_)
      exact ksub (by repeat first | exact sub_nil | refine sub_cons rfl ?_ | refine sub_cons' rfl (by simp) ?_) (by repeat first | exact .refl | exact .nil | exact .z | apply Pk.s | refine Ge.e ?_ | apply Ge.pick | apply Ge.drop) (hJr4 _ trivial)
    · skip
      refine na rfl (ac_alloc Try.zeroValue35 rfl) rfl ?_
      rintro v L' ⟨b6, rfl, rfl⟩; refine ⟨(by repeat first | exact .refl | exact .nil | exact .z | apply Pk.s | refine Ge.e ?_ | apply Ge.pick | apply Ge.drop), ?_⟩
      refine ncall rfl (wTake (m := x.m) ?wok200) rfl Try.call16 (by repeat first | exact .nil | exact .z | apply Pk.s | apply Tk.cons) rfl ?_
      case wok200 => exact hW
      rintro v L' ⟨rfl, rfl⟩; refine ⟨(by repeat first | exact .refl | exact .nil | exact .z | apply Pk.s | refine Ge.e ?_ | apply Ge.pick | apply Ge.drop), ?_⟩
      rw [hr0]
      refine nz rfl (ev_move rfl) rfl ?_
      refine nz rfl (ev_extract rfl rfl) rfl ?_
      refine nz rfl (ev_extract rfl rfl) rfl ?_
      refine naN rfl (ac_storeN rfl rfl (msg_one _) Try.sizeOf35 (by repeat first | exact .z | apply Rp.s) rfl (by simp [MsgM.cells]) rfl) ?_
      rintro v L' ⟨rfl, rfl⟩; refine ⟨(by repeat first | exact .refl | exact .nil | exact .z | apply Pk.s | refine Ge.e ?_ | apply Ge.pick | apply Ge.drop), ?_⟩
      refine nnil ?_
      refine y (ev_assign rfl) rfl ?_
      refine hnoP' (kthn ?_)
      exact ksub (by repeat first | exact sub_nil | refine sub_cons rfl ?_ | refine sub_cons' rfl (by simp) ?_) (by repeat first | exact .refl | exact .nil | exact .z | apply Pk.s | refine Ge.e ?_ | apply Ge.pick | apply Ge.drop) (hJr4 _ trivial)
  · (try simp only [decide_eq_true_eq, beq_iff_eq, beq_eq_false_iff_ne, decide_eq_decide, decide_eq_false_iff_not, Bool.not_eq_true', Bool.not_eq_false', Bool.not_eq_true, Bool.not_eq_false, Bool.not_not, ne_eq, Option.isNone_some, Option.isSome_some, Option.isNone_none, Option.isSome_none] at h50)
    refine cseq ?_; intro K14 hK14
    refine creg ?_
    refine y (ev_eql rfl rfl) rfl ?_
    refine y (ev_assign rfl) rfl ?_
    refine ynil' (kthn (hK14 _ _ ?_))
    clear hK14
    refine ccond rfl (fun h208 => ?_) (fun h208 => ?_)
    · (try simp only [decide_eq_true_eq, beq_iff_eq, beq_eq_false_iff_ne, decide_eq_decide, decide_eq_false_iff_not, Bool.not_eq_true', Bool.not_eq_false', Bool.not_eq_true, Bool.not_eq_false, Bool.not_not, ne_eq, Option.isNone_some, Option.isSome_some, Option.isNone_none, Option.isSome_none] at h208)
      refine cseq ?_; intro K15 hK15
      refine creg ?_
      have htz := ticks_zero hW
      refine y (ev_assign rfl) rfl ?_
      rw [← htz]
      refine ynil' (kthn (hK15 _ _ ?_))
      clear hK15
      refine cblock ?_
      refine cloop (A := Nat) (fun z => [(10, i64 z), (4, ptr b4), (3, ptr b3), (0, ptr l)]) (fun z => [sc b3 x.cells 64, sc b4 MsgM.zero.cells 35, lifeP l q (ptr s) W.wait mb bad, ownM mb kv n, witP s c (W.ticks z), celP c q W.c, dev q D] ++ R) (fun z => z ≤ actT x.n) (fun z => actT x.n - z) (0) ?_ (by repeat first | exact sub_nil | refine sub_cons rfl ?_ | refine sub_cons' rfl (by simp) ?_) (by repeat first | exact .refl | exact .nil | exact .z | apply Pk.s | refine Ge.e ?_ | apply Ge.pick | apply Ge.drop) ?_
      · exact Nat.zero_le _
      rintro k hI1 KL1 hL1
      have hkI := hI1; have hkt := ht1 k
      refine cseq ?_; intro K16 hK16
      refine cseq ?_; intro K17 hK17
      refine creg ?_
      refine y (ev_move rfl) rfl ?_
      refine y (ev_fieldAddr 1 rfl Try.underlying64 rfl Try.sizeOf3) rfl ?_
      refine y (ev_load rfl Try.isAgg3 (by repeat first | exact .z | apply In.s) rfl) rfl ?_
      refine y (ev_rem rfl rfl (by decide)) rfl ?_
      refine y (ev_lss rfl rfl) rfl ?_
      refine ynil' (kthn (hK17 _ _ ?_))
      clear hK17
      refine ccond rfl (fun h215 => ?_) (fun h215 => ?_)
      · (try simp only [decide_eq_true_eq, beq_iff_eq, beq_eq_false_iff_ne, decide_eq_decide, decide_eq_false_iff_not, Bool.not_eq_true', Bool.not_eq_false', Bool.not_eq_true, Bool.not_eq_false, Bool.not_not, ne_eq, Option.isNone_some, Option.isSome_some, Option.isNone_none, Option.isSome_none] at h215)
        refine cskip' (kthn (hK16 _ _ ?_))
        clear hK16
        refine cseq ?_; intro K18 hK18
        refine cblock ?_
        refine creg ?_
        refine y (ev_move rfl) rfl ?_
        refine y (ev_nil rfl) rfl ?_
        refine y (ev_fieldAddr 1 rfl Try.underlying31 rfl Try.sizeOf28) rfl ?_
        refine y (ev_load rfl Try.isAgg28 (by repeat first | exact .z | apply In.s) rfl) rfl ?_
        refine ycall (wTick ?lf220) rfl Try.call15 (by repeat first | exact .nil | exact .z | apply Pk.s | apply Tk.cons) rfl ?_
        case lf220 => exact (ticks_ok hW k).left
        rintro v L' ⟨rfl, rfl⟩
        rw [ticks_succ]
        refine ynil' (kbn (kthn (hK18 _ _ ?_)))
        clear hK18
        refine creg ?_
        refine y (ev_move rfl) rfl ?_
        refine y (ev_add rfl rfl) rfl ?_
        rw [show IntKind.i64.wrap ((k:Int) + 1) = ((k+1 : Nat) : Int) by rw [wr (by omega) (by omega)]; rfl]
        refine y (ev_assign rfl) rfl ?_
        refine ynil' (kthn ?_)
        exact hL1 (k + 1) (by omega) (by omega) _ _ (by repeat first | exact sub_nil | refine sub_cons rfl ?_ | refine sub_cons' rfl (by simp) ?_) (by repeat first | exact .refl | exact .nil | exact .z | apply Pk.s | refine Ge.e ?_ | apply Ge.pick | apply Ge.drop)
      · (try simp only [decide_eq_true_eq, beq_iff_eq, beq_eq_false_iff_ne, decide_eq_decide, decide_eq_false_iff_not, Bool.not_eq_true', Bool.not_eq_false', Bool.not_eq_true, Bool.not_eq_false, Bool.not_not, ne_eq, Option.isNone_some, Option.isSome_some, Option.isNone_none, Option.isSome_none] at h215)
        refine cexit (kthx (kthx (kbx (kbn (kthn (hK2 _ _ ?_))))))
        clear hK2
        refine cseq ?_; intro K19 hK19
        refine creg ?_
        refine y (ev_build (zs := _) rfl Try.underlying35 Try.zeroValue35 rfl (.cons Try.sizeOf3 (.cons Try.sizeOf2 (.cons Try.sizeOf2 (.cons Try.sizeOf2 (.cons Try.sizeOf3 (.cons Try.sizeOf3 (.cons Try.sizeOf32 (.cons Try.sizeOf33 (.cons Try.sizeOf9 (.cons Try.sizeOf9 .nil)))))))))) trivial (by dsimp [fillL, splice, vcells] <;> rfl)) rfl ?_
        refine ya0 (ac_storeN rfl rfl (msg_one MsgM.zero) Try.sizeOf35 (by repeat first | exact .z | apply Rp.s) rfl (by simp [MsgM.cells]) rfl) ?_
        rintro v L' ⟨rfl, rfl⟩
        refine y (ev_assign rfl) rfl ?_
        refine ynil' (kthn (hK19 _ _ ?_))
        clear hK19
        refine cret ?_
        first
          | (exfalso; omega; done)
          | (refine kretct Try.results30 rfl rfl Try.isAgg35 Try.sizeOf35 (by repeat first | exact .z | apply In.s) rfl (L1 := [lifeP l q (ptr s) W.wait mb bad, ownM mb kv n, witP s c _, celP c q _, dev q _] ++ R) (by repeat first | exact .refl | exact .nil | exact .z | apply Pk.s | refine Ge.e ?_ | apply Ge.pick | apply Ge.drop) ?_
             obtain rfl : k = actT x.n := (by omega); rw [act_tick (W := W) (D := D) (g := g) (bad := bad) (x := x) (by omega)]; exact ⟨_, ⟨kv, n, s, c, rfl, hO, rfl⟩, rfl⟩)
          | (refine kretct Try.results30 rfl rfl Try.isAgg35 Try.sizeOf35 (by repeat first | exact .z | apply In.s) rfl (L1 := [lifeP l q (ptr s) W.wait mb bad, ownM mb kv n, witP s c _, celP c q _, dev q _] ++ R) (by repeat first | exact .refl | exact .nil | exact .z | apply Pk.s | refine Ge.e ?_ | apply Ge.pick | apply Ge.drop) ?_
             rw [hac]; exact ⟨_, ⟨kv, n, s, c, rfl, hO, rfl⟩, rfl⟩)
          | (refine kretct Try.results30 rfl rfl Try.isAgg35 Try.sizeOf35 (by repeat first | exact .z | apply In.s) rfl (L1 := [lifeP l q (ptr s138) W.wait mb _, ownM mb kv n, witP s138 c138 _, celP c138 q _, dev q _] ++ R) (by repeat first | exact .refl | exact .nil | exact .z | apply Pk.s | refine Ge.e ?_ | apply Ge.pick | apply Ge.drop) ?_
             rw [hac]; exact ⟨_, ⟨kv, n, s138, c138, rfl, hO, rfl⟩, rfl⟩)
          | (refine kretct Try.results30 rfl rfl Try.isAgg35 Try.sizeOf35 (by repeat first | exact .z | apply In.s) rfl (L1 := [lifeP l q (ptr s) W.wait mb bad, ownM mb kv n, witP s c _, celP c q _, dev q _] ++ R) (by repeat first | exact .refl | exact .nil | exact .z | apply Pk.s | refine Ge.e ?_ | apply Ge.pick | apply Ge.drop) ?_
             rw [act_fuse (W := W) (D := D) (g := g) (bad := bad) (x := x) (by omega)]; exact ⟨_, ⟨kv, n, s, c, rfl, hO, rfl⟩, rfl⟩)
          | (refine kretct Try.results30 rfl rfl Try.isAgg35 Try.sizeOf35 (by repeat first | exact .z | apply In.s) rfl (L1 := [lifeP l q (ptr s) W.wait mb bad, ownM mb kv n, witP s c _, celP c q _, dev q _] ++ R) (by repeat first | exact .refl | exact .nil | exact .z | apply Pk.s | refine Ge.e ?_ | apply Ge.pick | apply Ge.drop) ?_
             rw [act_else (W := W) (D := D) (g := g) (bad := bad) (x := x) (by omega) (by omega) (by omega) (by omega)]; exact ⟨_, ⟨kv, n, s, c, rfl, hO, rfl⟩, rfl⟩)
    · (try simp only [decide_eq_true_eq, beq_iff_eq, beq_eq_false_iff_ne, decide_eq_decide, decide_eq_false_iff_not, Bool.not_eq_true', Bool.not_eq_false', Bool.not_eq_true, Bool.not_eq_false, Bool.not_not, ne_eq, Option.isNone_some, Option.isSome_some, Option.isNone_none, Option.isSome_none] at h208)
      refine cseq ?_; intro K20 hK20
      refine creg ?_
      refine y (ev_eql rfl rfl) rfl ?_
      refine y (ev_assign rfl) rfl ?_
      refine ynil' (kthn (hK20 _ _ ?_))
      clear hK20
      refine ccond rfl (fun h229 => ?_) (fun h229 => ?_)
      · (try simp only [decide_eq_true_eq, beq_iff_eq, beq_eq_false_iff_ne, decide_eq_decide, decide_eq_false_iff_not, Bool.not_eq_true', Bool.not_eq_false', Bool.not_eq_true, Bool.not_eq_false, Bool.not_not, ne_eq, Option.isNone_some, Option.isSome_some, Option.isNone_none, Option.isSome_none] at h229)
        refine cseq ?_; intro K21 hK21
        refine creg ?_
        refine ya (ac_bslice0 Try.underlying62 Try.sizeOf76) rfl ?_
        rintro v L' ⟨b104, rfl, rfl⟩
        refine y (ev_fieldAddr 17 rfl Try.underlying64 rfl Try.sizeOf62) rfl ?_
        refine y (ev_load rfl Try.isAgg62 (by repeat first | exact .z | apply In.s) rfl) rfl ?_
        refine ya (ac_append (s := some (b104, 0, [])) (xs := []) (m := 0) (k := x.ks.length) (us := keepsV x.ks) (size := 2) rfl rfl (by repeat first | exact .z | apply Pk.s) Try.underlying62 Try.underlying62 (by intro q hq; cases hq) Try.typeInfo76 rfl rfl rfl ?ok233 ?src233 ?one233 ?big233) rfl ?_
        case ok233 => exact ⟨by decide, by decide, rfl, rfl⟩
        case src233 => exact (hkk.mono (by repeat first | exact .refl | exact .nil | exact .z | apply Pk.s | refine Ge.e ?_ | apply Ge.pick | apply Ge.drop)).src (keepsV_len2 _)
        case one233 => exact keepsV_one _
        case big233 => show (_ + _) * 17 ≤ _; omega
        rintro v L' ⟨s107, rfl, ok107, rfl⟩
        rw [Nat.zero_add, List.nil_append] at ok107 ⊢
        refine y (ev_assign rfl) rfl ?_
        refine ynil' (kthn (hK21 _ _ ?_))
        clear hK21
        refine cseq ?_; intro K22 hK22
        refine cseq ?_; intro K23 hK23
        refine creg ?_
        refine y (ev_move rfl) rfl ?_
        first
          | refine y (ev_len rfl Try.underlying62) rfl ?_
          | refine y (ev_lenSv rfl Try.underlying62 (by assumption)) rfl ?_
          | refine y (ev_lenV rfl Try.underlying62 (RdV.lenVal (by assumption))) rfl ?_
          | refine y (ev_lenV rfl Try.underlying62 (RdB.lenVal (by assumption))) rfl ?_
        refine y (ev_move rfl) rfl ?_
        refine ynil' (kthn (hK23 _ _ ?_))
        clear hK23
        have hJ2 : ∀ z : Nat, ((z ≤ x.ks.length) ∧ (z = x.ks.length)) → Sk 167 K22 ([(110, i64 z), (109, i64 x.ks.length), (11, svVal s107 x.ks.length), (4, ptr b4), (3, ptr b3), (0, ptr l)]) ([svSeg s107 76 (keepsV (maskN x.ks z)), sc b3 x.cells 64, sc b4 MsgM.zero.cells 35, lifeP l q (ptr s) W.wait mb bad, ownM mb kv n, witP s c W, celP c q W.c, dev q D] ++ R) := by
          rintro k ⟨hI2, hX2⟩
          refine hK22 _ _ ?_
          have hkI := hI2
          have hk1 := hX2; subst hk1; rw [maskN_all]; have hac := act_crash (W := W) (D := D) (g := g) (bad := bad) (x := x) (by omega)
          refine cseq ?_; intro K24 hK24
          refine creg ?_
          refine y (ev_move rfl) rfl ?_
          refine y (ev_nil rfl) rfl ?_
          refine y (ev_fieldAddr 0 rfl Try.underlying31 rfl Try.sizeOf27) rfl ?_
          refine y (ev_load rfl Try.isAgg27 (by repeat first | exact .z | apply In.s) rfl) rfl ?_
          refine y (ev_move rfl) rfl ?_
          refine ycall (secCrash (ks := maskK x.ks) ?ok243 ?ks243) rfl Try.call35 (by repeat first | exact .nil | exact .z | apply Pk.s | apply Tk.cons) rfl ?_
          case ok243 => exact hW.d
          case ks243 => rw [maskK_len]; exact rdV_sv (by repeat first | exact .z | apply In.s) (svOk_same ok107 (by rw [keepsV_len2, keepsV_len2, maskK_len]))
          rintro v L' ⟨rfl, rfl⟩
          have hE := crash_E hW h2 (maskK x.ks)
          refine ynil' (kthn (hK24 _ _ ?_))
          clear hK24
          refine cseq ?_; intro K25 hK25
          refine cdrawN 16 (.op 0 0 (.op 1 0 (.op 2 0 (.op 3 0 (.op 4 1 (.op 5 0 (.op 6 0 (.op 7 0 (.op 8 1 (.op 9 3 (.op 10 0 (.op 11 0 (.op 12 0 (.op 13 0 (.op 14 0 (.op 15 2 (.nil))))))))))))))))) ([lifeP l q (ptr s) W.wait mb bad] ++ R) Try.mixed (by kernel_rfl) (by repeat first | exact .refl | exact .nil | exact .z | apply Pk.s | refine Ge.e ?_ | apply Ge.pick | apply Ge.drop) ?_
          refine nz rfl (ev_move rfl) rfl ?_
          refine nz rfl (ev_move rfl) rfl ?_
          refine nz rfl (ev_nil rfl) rfl ?_
          refine nz rfl (ev_fieldAddr 0 rfl Try.underlying31 rfl Try.sizeOf27) rfl ?_
          refine nr rfl (ev_load rfl Try.isAgg27 (by repeat first | exact .z | apply In.s) rfl) rfl ?_
          refine nz rfl (ev_move rfl) rfl ?_
          refine nz rfl (ev_nil rfl) rfl ?_
          refine nz rfl (ev_fieldAddr 2 rfl Try.underlying31 rfl Try.sizeOf2) rfl ?_
          refine nr rfl (ev_load rfl Try.isAgg2 (by repeat first | exact .z | apply In.s) rfl) rfl ?_
          refine ncallC ([ownM mb kv n] ++ R) rfl (wOpenGood (crash_up hW.d (maskK x.ks)).ok hE) rfl Try.call32 (by repeat first | exact .nil | exact .z | apply Pk.s | apply Tk.cons) rfl ?_
          rintro v L' ⟨s138, c138, rfl, rfl⟩; refine ⟨(by repeat first | exact .refl | exact .nil | exact .z | apply Pk.s | refine Ge.e ?_ | apply Ge.pick | apply Ge.drop), ?_⟩
          refine nz rfl (ev_move rfl) rfl ?_
          refine nz rfl (ev_extract rfl rfl) rfl ?_
          refine nz rfl (ev_extract rfl rfl) rfl ?_
          refine nz rfl (ev_nil rfl) rfl ?_
          refine nz rfl (ev_fieldAddr 1 rfl Try.underlying31 rfl Try.sizeOf28) rfl ?_
          refine naN rfl (ac_store rfl rfl (by first | rfl | exact svVal_one _ _ | assumption) Try.sizeOf28 (by repeat first | exact .z | apply Rp.s) rfl rfl) ?_
          rintro v L' ⟨rfl, rfl⟩; refine ⟨(by repeat first | exact .refl | exact .nil | exact .z | apply Pk.s | refine Ge.e ?_ | apply Ge.pick | apply Ge.drop), ?_⟩
          refine nnil ?_
          refine hnoP' (kthn (hK25 _ _ ?_))
          clear hK25
          refine creg ?_
          cases bad
          · skip
            refine y (ev_move rfl) rfl ?_
            refine y (ev_move rfl) rfl ?_
            refine y (ev_nil rfl) rfl ?_
            refine y (ev_fieldAddr 4 rfl Try.underlying31 rfl Try.sizeOf4) rfl ?_
            refine y (ev_load rfl Try.isAgg4 (by repeat first | exact .z | apply In.s) rfl) rfl ?_
            refine y (ev_move rfl) rfl ?_
            refine yg1 rfl rfl ?_
            refine y (ev_move rfl) rfl ?_
            refine yg1 rfl rfl ?_
            refine y (ev_nil rfl) rfl ?_
            refine yg1 rfl rfl ?_
            refine y (ev_fieldAddr 1 rfl Try.underlying31 rfl Try.sizeOf28) rfl ?_
            refine yg1 rfl rfl ?_
            refine y (ev_load rfl Try.isAgg28 (by repeat first | exact .z | apply In.s) rfl) rfl ?_
            refine yg1 rfl rfl ?_
            refine y (ev_eqlPnil rfl rfl Try.underlying28) rfl ?_
            refine y (ev_pick0 rfl rfl) rfl ?_
            refine y (ev_nil rfl) rfl ?_
            refine y (ev_fieldAddr 4 rfl Try.underlying31 rfl Try.sizeOf4) rfl ?_
            refine ya0 (ac_store rfl rfl (by first | rfl | exact svVal_one _ _ | assumption) Try.sizeOf4 (by repeat first | exact .z | apply Rp.s) rfl rfl) ?_
            rintro v L' ⟨rfl, rfl⟩
            refine ynil' (kbn (kthn (hK2 _ _ ?_)))
            clear hK2
            refine cseq ?_; intro K26 hK26
            refine creg ?_
            refine y (ev_build (zs := _) rfl Try.underlying35 Try.zeroValue35 rfl (.cons Try.sizeOf3 (.cons Try.sizeOf2 (.cons Try.sizeOf2 (.cons Try.sizeOf2 (.cons Try.sizeOf3 (.cons Try.sizeOf3 (.cons Try.sizeOf32 (.cons Try.sizeOf33 (.cons Try.sizeOf9 (.cons Try.sizeOf9 .nil)))))))))) trivial (by dsimp [fillL, splice, vcells] <;> rfl)) rfl ?_
            refine ya0 (ac_storeN rfl rfl (msg_one MsgM.zero) Try.sizeOf35 (by repeat first | exact .z | apply Rp.s) rfl (by simp [MsgM.cells]) rfl) ?_
            rintro v L' ⟨rfl, rfl⟩
            refine y (ev_assign rfl) rfl ?_
            refine ynil' (kthn (hK26 _ _ ?_))
            clear hK26
            refine cret ?_
            first
              | (exfalso; omega; done)
              | (refine kretct Try.results30 rfl rfl Try.isAgg35 Try.sizeOf35 (by repeat first | exact .z | apply In.s) rfl (L1 := [lifeP l q (ptr s) W.wait mb bad, ownM mb kv n, witP s c _, celP c q _, dev q _] ++ R) (by repeat first | exact .refl | exact .nil | exact .z | apply Pk.s | refine Ge.e ?_ | apply Ge.pick | apply Ge.drop) ?_
                 obtain rfl : k = actT x.n := (by omega); rw [act_tick (W := W) (D := D) (g := g) (bad := bad) (x := x) (by omega)]; exact ⟨_, ⟨kv, n, s, c, rfl, hO, rfl⟩, rfl⟩)
              | (refine kretct Try.results30 rfl rfl Try.isAgg35 Try.sizeOf35 (by repeat first | exact .z | apply In.s) rfl (L1 := [lifeP l q (ptr s) W.wait mb bad, ownM mb kv n, witP s c _, celP c q _, dev q _] ++ R) (by repeat first | exact .refl | exact .nil | exact .z | apply Pk.s | refine Ge.e ?_ | apply Ge.pick | apply Ge.drop) ?_
                 rw [hac]; exact ⟨_, ⟨kv, n, s, c, rfl, hO, rfl⟩, rfl⟩)
              | (refine kretct Try.results30 rfl rfl Try.isAgg35 Try.sizeOf35 (by repeat first | exact .z | apply In.s) rfl (L1 := [lifeP l q (ptr s138) W.wait mb _, ownM mb kv n, witP s138 c138 _, celP c138 q _, dev q _] ++ R) (by repeat first | exact .refl | exact .nil | exact .z | apply Pk.s | refine Ge.e ?_ | apply Ge.pick | apply Ge.drop) ?_
                 rw [hac]; exact ⟨_, ⟨kv, n, s138, c138, rfl, hO, rfl⟩, rfl⟩)
              | (refine kretct Try.results30 rfl rfl Try.isAgg35 Try.sizeOf35 (by repeat first | exact .z | apply In.s) rfl (L1 := [lifeP l q (ptr s) W.wait mb bad, ownM mb kv n, witP s c _, celP c q _, dev q _] ++ R) (by repeat first | exact .refl | exact .nil | exact .z | apply Pk.s | refine Ge.e ?_ | apply Ge.pick | apply Ge.drop) ?_
                 rw [act_fuse (W := W) (D := D) (g := g) (bad := bad) (x := x) (by omega)]; exact ⟨_, ⟨kv, n, s, c, rfl, hO, rfl⟩, rfl⟩)
              | (refine kretct Try.results30 rfl rfl Try.isAgg35 Try.sizeOf35 (by repeat first | exact .z | apply In.s) rfl (L1 := [lifeP l q (ptr s) W.wait mb bad, ownM mb kv n, witP s c _, celP c q _, dev q _] ++ R) (by repeat first | exact .refl | exact .nil | exact .z | apply Pk.s | refine Ge.e ?_ | apply Ge.pick | apply Ge.drop) ?_
                 rw [act_else (W := W) (D := D) (g := g) (bad := bad) (x := x) (by omega) (by omega) (by omega) (by omega)]; exact ⟨_, ⟨kv, n, s, c, rfl, hO, rfl⟩, rfl⟩)
          · skip
            refine y (ev_move rfl) rfl ?_
            refine y (ev_move rfl) rfl ?_
            refine y (ev_nil rfl) rfl ?_
            refine y (ev_fieldAddr 4 rfl Try.underlying31 rfl Try.sizeOf4) rfl ?_
            refine y (ev_load rfl Try.isAgg4 (by repeat first | exact .z | apply In.s) rfl) rfl ?_
            refine y (ev_move rfl) rfl ?_
            refine yg0 rfl rfl rfl rfl ?_
            refine yg0 rfl rfl rfl rfl ?_
            refine yg0 rfl rfl rfl rfl ?_
            refine yg0 rfl rfl rfl rfl ?_
            refine yg0 rfl rfl rfl rfl ?_
            refine y (ev_pick1 rfl rfl) rfl ?_
            refine y (ev_nil rfl) rfl ?_
            refine y (ev_fieldAddr 4 rfl Try.underlying31 rfl Try.sizeOf4) rfl ?_
            refine ya0 (ac_store rfl rfl (by first | rfl | exact svVal_one _ _ | assumption) Try.sizeOf4 (by repeat first | exact .z | apply Rp.s) rfl rfl) ?_
            rintro v L' ⟨rfl, rfl⟩
            refine ynil' (kbn (kthn (hK2 _ _ ?_)))
            clear hK2
            refine cseq ?_; intro K27 hK27
            refine creg ?_
            refine y (ev_build (zs := _) rfl Try.underlying35 Try.zeroValue35 rfl (.cons Try.sizeOf3 (.cons Try.sizeOf2 (.cons Try.sizeOf2 (.cons Try.sizeOf2 (.cons Try.sizeOf3 (.cons Try.sizeOf3 (.cons Try.sizeOf32 (.cons Try.sizeOf33 (.cons Try.sizeOf9 (.cons Try.sizeOf9 .nil)))))))))) trivial (by dsimp [fillL, splice, vcells] <;> rfl)) rfl ?_
            refine ya0 (ac_storeN rfl rfl (msg_one MsgM.zero) Try.sizeOf35 (by repeat first | exact .z | apply Rp.s) rfl (by simp [MsgM.cells]) rfl) ?_
            rintro v L' ⟨rfl, rfl⟩
            refine y (ev_assign rfl) rfl ?_
            refine ynil' (kthn (hK27 _ _ ?_))
            clear hK27
            refine cret ?_
            first
              | (exfalso; omega; done)
              | (refine kretct Try.results30 rfl rfl Try.isAgg35 Try.sizeOf35 (by repeat first | exact .z | apply In.s) rfl (L1 := [lifeP l q (ptr s) W.wait mb bad, ownM mb kv n, witP s c _, celP c q _, dev q _] ++ R) (by repeat first | exact .refl | exact .nil | exact .z | apply Pk.s | refine Ge.e ?_ | apply Ge.pick | apply Ge.drop) ?_
                 obtain rfl : k = actT x.n := (by omega); rw [act_tick (W := W) (D := D) (g := g) (bad := bad) (x := x) (by omega)]; exact ⟨_, ⟨kv, n, s, c, rfl, hO, rfl⟩, rfl⟩)
              | (refine kretct Try.results30 rfl rfl Try.isAgg35 Try.sizeOf35 (by repeat first | exact .z | apply In.s) rfl (L1 := [lifeP l q (ptr s) W.wait mb bad, ownM mb kv n, witP s c _, celP c q _, dev q _] ++ R) (by repeat first | exact .refl | exact .nil | exact .z | apply Pk.s | refine Ge.e ?_ | apply Ge.pick | apply Ge.drop) ?_
                 rw [hac]; exact ⟨_, ⟨kv, n, s, c, rfl, hO, rfl⟩, rfl⟩)
              | (refine kretct Try.results30 rfl rfl Try.isAgg35 Try.sizeOf35 (by repeat first | exact .z | apply In.s) rfl (L1 := [lifeP l q (ptr s138) W.wait mb _, ownM mb kv n, witP s138 c138 _, celP c138 q _, dev q _] ++ R) (by repeat first | exact .refl | exact .nil | exact .z | apply Pk.s | refine Ge.e ?_ | apply Ge.pick | apply Ge.drop) ?_
                 rw [hac]; exact ⟨_, ⟨kv, n, s138, c138, rfl, hO, rfl⟩, rfl⟩)
              | (refine kretct Try.results30 rfl rfl Try.isAgg35 Try.sizeOf35 (by repeat first | exact .z | apply In.s) rfl (L1 := [lifeP l q (ptr s) W.wait mb bad, ownM mb kv n, witP s c _, celP c q _, dev q _] ++ R) (by repeat first | exact .refl | exact .nil | exact .z | apply Pk.s | refine Ge.e ?_ | apply Ge.pick | apply Ge.drop) ?_
                 rw [act_fuse (W := W) (D := D) (g := g) (bad := bad) (x := x) (by omega)]; exact ⟨_, ⟨kv, n, s, c, rfl, hO, rfl⟩, rfl⟩)
              | (refine kretct Try.results30 rfl rfl Try.isAgg35 Try.sizeOf35 (by repeat first | exact .z | apply In.s) rfl (L1 := [lifeP l q (ptr s) W.wait mb bad, ownM mb kv n, witP s c _, celP c q _, dev q _] ++ R) (by repeat first | exact .refl | exact .nil | exact .z | apply Pk.s | refine Ge.e ?_ | apply Ge.pick | apply Ge.drop) ?_
                 rw [act_else (W := W) (D := D) (g := g) (bad := bad) (x := x) (by omega) (by omega) (by omega) (by omega)]; exact ⟨_, ⟨kv, n, s, c, rfl, hO, rfl⟩, rfl⟩)
        clear hK22
        refine cblock ?_
        refine cloop (A := Nat) (fun z => [(110, i64 z), (109, i64 x.ks.length), (11, svVal s107 x.ks.length), (4, ptr b4), (3, ptr b3), (0, ptr l)]) (fun z => [svSeg s107 76 (keepsV (maskN x.ks z)), sc b3 x.cells 64, sc b4 MsgM.zero.cells 35, lifeP l q (ptr s) W.wait mb bad, ownM mb kv n, witP s c W, celP c q W.c, dev q D] ++ R) (fun z => z ≤ x.ks.length) (fun z => x.ks.length - z) (0) ?_ (by repeat first | exact sub_nil | refine sub_cons rfl ?_ | refine sub_cons' rfl (by simp) ?_) (by repeat first | exact .refl | exact .nil | exact .z | apply Pk.s | refine Ge.e ?_ | apply Ge.pick | apply Ge.drop) ?_
        · exact Nat.zero_le _
        rintro k hI2 KL2 hL2
        have hI2o := hI2
        have hkI := hI2
        refine cseq ?_; intro K28 hK28
        refine creg ?_
        refine y (ev_lss rfl rfl) rfl ?_
        refine ynil' (kthn (hK28 _ _ ?_))
        clear hK28
        refine cseq ?_; intro K29 hK29
        refine ccond rfl (fun h292 => ?_) (fun h292 => ?_)
        · (try simp only [decide_eq_true_eq, beq_iff_eq, beq_eq_false_iff_ne, decide_eq_decide, decide_eq_false_iff_not, Bool.not_eq_true', Bool.not_eq_false', Bool.not_eq_true, Bool.not_eq_false, Bool.not_not, ne_eq, Option.isNone_some, Option.isSome_some, Option.isNone_none, Option.isSome_none] at h292)
          refine cskip' (kthn (hK29 _ _ ?_))
          clear hK29
          refine cseq ?_; intro K30 hK30
          refine cblock ?_
          refine cseq ?_; intro K31 hK31
          refine creg ?_
          refine y (ev_move rfl) rfl ?_
          refine y (ev_assign rfl) rfl ?_
          refine ynil' (kthn (hK31 _ _ ?_))
          clear hK31
          refine creg ?_
          obtain ⟨y0, hy0⟩ : ∃ y, x.ks[k]? = some y := ⟨_, List.getElem?_eq_getElem (by omega)⟩
          rcases s107 with _ | ⟨bk, ck, sk⟩
          · exact absurd ok107.1 (by omega)
          have hset : (keepsV (maskN x.ks k) ++ sk).set (k * 2) (i64 (bAnd .i64 y0.1 1)) = keepsV (maskN x.ks (k + 1)) ++ sk := by rw [List.set_append_left _ _ (by rw [keepsV_len2, maskN_len]; omega), keepsV_set (maskN_get hy0), maskN_set hy0]
          have hget : (keepsV (maskN x.ks k) ++ sk)[k * 2]? = some (i64 y0.1) := by rw [List.getElem?_append_left (by rw [keepsV_len2, maskN_len]; omega)]; exact keepsV_get0 (maskN_get hy0)
          refine y (ev_move rfl) rfl ?_
          refine y (ev_move rfl) rfl ?_
          refine y (ev_ixAddr rfl rfl Try.underlying62 Try.sizeOf76 (by omega) (by omega)) rfl ?_
          refine y (ev_fieldAddr 0 rfl Try.underlying76 rfl Try.sizeOf3) rfl ?_
          refine y (ev_load rfl Try.isAgg3 (by repeat first | exact .z | apply In.s) (by simpa using hget)) rfl ?_
          refine y (ev_and rfl rfl) rfl ?_
          refine y (ev_ixAddr rfl rfl Try.underlying62 Try.sizeOf76 (by omega) (by omega)) rfl ?_
          refine y (ev_fieldAddr 0 rfl Try.underlying76 rfl Try.sizeOf3) rfl ?_
          refine ya0 (ac_store rfl rfl rfl Try.sizeOf3 (by repeat first | exact .z | apply Rp.s) (by simp [keepsV_len2, maskN_len]; omega) (by simpa using hset)) ?_
          rintro v L' ⟨rfl, rfl⟩
          refine ynil' (kbn (kthn (hK30 _ _ ?_)))
          clear hK30
          refine creg ?_
          refine y (ev_add rfl rfl) rfl ?_
          rw [show IntKind.i64.wrap ((k:Int) + 1) = ((k+1 : Nat) : Int) by rw [wr (by omega) (by omega)]; rfl]
          refine y (ev_move rfl) rfl ?_
          refine ynil' (kthn ?_)
          exact hL2 (k + 1) (by omega) (by omega) _ _ (by repeat first | exact sub_nil | refine sub_cons rfl ?_ | refine sub_cons' rfl (by simp) ?_) (by repeat first | exact .refl | exact .nil | exact .z | apply Pk.s | refine Ge.e ?_ | apply Ge.pick | apply Ge.drop)
        · (try simp only [decide_eq_true_eq, beq_iff_eq, beq_eq_false_iff_ne, decide_eq_decide, decide_eq_false_iff_not, Bool.not_eq_true', Bool.not_eq_false', Bool.not_eq_true, Bool.not_eq_false, Bool.not_not, ne_eq, Option.isNone_some, Option.isSome_some, Option.isNone_none, Option.isSome_none] at h292)
          refine cexit (kthx (kthx (kbx (kthn ?_))))
          exact ksub (by repeat first | exact sub_nil | refine sub_cons rfl ?_ | refine sub_cons' rfl (by simp) ?_) (by repeat first | exact .refl | exact .nil | exact .z | apply Pk.s | refine Ge.e ?_ | apply Ge.pick | apply Ge.drop) (hJ2 k ⟨hI2o, by first | trivial | omega⟩)
      · (try simp only [decide_eq_true_eq, beq_iff_eq, beq_eq_false_iff_ne, decide_eq_decide, decide_eq_false_iff_not, Bool.not_eq_true', Bool.not_eq_false', Bool.not_eq_true, Bool.not_eq_false, Bool.not_not, ne_eq, Option.isNone_some, Option.isSome_some, Option.isNone_none, Option.isSome_none] at h229)
        refine cseq ?_; intro K32 hK32
        refine creg ?_
        refine y (ev_eql rfl rfl) rfl ?_
        refine y (ev_assign rfl) rfl ?_
        refine ynil' (kthn (hK32 _ _ ?_))
        clear hK32
        refine ccond rfl (fun h308 => ?_) (fun h308 => ?_)
        · (try simp only [decide_eq_true_eq, beq_iff_eq, beq_eq_false_iff_ne, decide_eq_decide, decide_eq_false_iff_not, Bool.not_eq_true', Bool.not_eq_false', Bool.not_eq_true, Bool.not_eq_false, Bool.not_not, ne_eq, Option.isNone_some, Option.isSome_some, Option.isNone_none, Option.isSome_none] at h308)
          refine cdraw 6 [(0, true), (1, true), (2, true), (3, true), (4, true), (5, true)] ([lifeP l q (ptr s) W.wait mb bad, sc b3 x.cells 64] ++ R) Try.mixed (by kernel_rfl) (by repeat first | exact .refl | exact .nil | exact .z | apply Pk.s | refine Ge.e ?_ | apply Ge.pick | apply Ge.drop) ?_
          refine hr rfl (ev_move rfl) rfl ?_
          refine hr rfl (ev_nil rfl) rfl ?_
          refine hr rfl (ev_fieldAddr 0 rfl Try.underlying31 rfl Try.sizeOf27) rfl ?_
          refine hr rfl (ev_load rfl Try.isAgg27 (by repeat first | exact .z | apply In.s) rfl) rfl ?_
          refine hr rfl (ev_fieldAddr 1 rfl Try.underlying64 rfl Try.sizeOf3) rfl ?_
          refine hr rfl (ev_load rfl Try.isAgg3 (by repeat first | exact .z | apply In.s) rfl) rfl ?_
          refine hnil ?_
          refine ycall (secFuse) rfl Try.call36 (by repeat first | exact .nil | exact .z | apply Pk.s | apply Tk.cons) rfl ?_
          rintro v L' ⟨rfl, rfl⟩
          refine hnoP' (kbn (kthn (hK2 _ _ ?_)))
          clear hK2
          refine cseq ?_; intro K33 hK33
          refine creg ?_
          refine y (ev_build (zs := _) rfl Try.underlying35 Try.zeroValue35 rfl (.cons Try.sizeOf3 (.cons Try.sizeOf2 (.cons Try.sizeOf2 (.cons Try.sizeOf2 (.cons Try.sizeOf3 (.cons Try.sizeOf3 (.cons Try.sizeOf32 (.cons Try.sizeOf33 (.cons Try.sizeOf9 (.cons Try.sizeOf9 .nil)))))))))) trivial (by dsimp [fillL, splice, vcells] <;> rfl)) rfl ?_
          refine ya0 (ac_storeN rfl rfl (msg_one MsgM.zero) Try.sizeOf35 (by repeat first | exact .z | apply Rp.s) rfl (by simp [MsgM.cells]) rfl) ?_
          rintro v L' ⟨rfl, rfl⟩
          refine y (ev_assign rfl) rfl ?_
          refine ynil' (kthn (hK33 _ _ ?_))
          clear hK33
          refine cret ?_
          first
            | (exfalso; omega; done)
            | (refine kretct Try.results30 rfl rfl Try.isAgg35 Try.sizeOf35 (by repeat first | exact .z | apply In.s) rfl (L1 := [lifeP l q (ptr s) W.wait mb bad, ownM mb kv n, witP s c _, celP c q _, dev q _] ++ R) (by repeat first | exact .refl | exact .nil | exact .z | apply Pk.s | refine Ge.e ?_ | apply Ge.pick | apply Ge.drop) ?_
               obtain rfl : k = actT x.n := (by omega); rw [act_tick (W := W) (D := D) (g := g) (bad := bad) (x := x) (by omega)]; exact ⟨_, ⟨kv, n, s, c, rfl, hO, rfl⟩, rfl⟩)
            | (refine kretct Try.results30 rfl rfl Try.isAgg35 Try.sizeOf35 (by repeat first | exact .z | apply In.s) rfl (L1 := [lifeP l q (ptr s) W.wait mb bad, ownM mb kv n, witP s c _, celP c q _, dev q _] ++ R) (by repeat first | exact .refl | exact .nil | exact .z | apply Pk.s | refine Ge.e ?_ | apply Ge.pick | apply Ge.drop) ?_
               rw [hac]; exact ⟨_, ⟨kv, n, s, c, rfl, hO, rfl⟩, rfl⟩)
            | (refine kretct Try.results30 rfl rfl Try.isAgg35 Try.sizeOf35 (by repeat first | exact .z | apply In.s) rfl (L1 := [lifeP l q (ptr s138) W.wait mb _, ownM mb kv n, witP s138 c138 _, celP c138 q _, dev q _] ++ R) (by repeat first | exact .refl | exact .nil | exact .z | apply Pk.s | refine Ge.e ?_ | apply Ge.pick | apply Ge.drop) ?_
               rw [hac]; exact ⟨_, ⟨kv, n, s138, c138, rfl, hO, rfl⟩, rfl⟩)
            | (refine kretct Try.results30 rfl rfl Try.isAgg35 Try.sizeOf35 (by repeat first | exact .z | apply In.s) rfl (L1 := [lifeP l q (ptr s) W.wait mb bad, ownM mb kv n, witP s c _, celP c q _, dev q _] ++ R) (by repeat first | exact .refl | exact .nil | exact .z | apply Pk.s | refine Ge.e ?_ | apply Ge.pick | apply Ge.drop) ?_
               rw [act_fuse (W := W) (D := D) (g := g) (bad := bad) (x := x) (by omega)]; exact ⟨_, ⟨kv, n, s, c, rfl, hO, rfl⟩, rfl⟩)
            | (refine kretct Try.results30 rfl rfl Try.isAgg35 Try.sizeOf35 (by repeat first | exact .z | apply In.s) rfl (L1 := [lifeP l q (ptr s) W.wait mb bad, ownM mb kv n, witP s c _, celP c q _, dev q _] ++ R) (by repeat first | exact .refl | exact .nil | exact .z | apply Pk.s | refine Ge.e ?_ | apply Ge.pick | apply Ge.drop) ?_
               rw [act_else (W := W) (D := D) (g := g) (bad := bad) (x := x) (by omega) (by omega) (by omega) (by omega)]; exact ⟨_, ⟨kv, n, s, c, rfl, hO, rfl⟩, rfl⟩)
        · (try simp only [decide_eq_true_eq, beq_iff_eq, beq_eq_false_iff_ne, decide_eq_decide, decide_eq_false_iff_not, Bool.not_eq_true', Bool.not_eq_false', Bool.not_eq_true, Bool.not_eq_false, Bool.not_not, ne_eq, Option.isNone_some, Option.isSome_some, Option.isNone_none, Option.isSome_none] at h308)
          refine cskip' (kbn (kthn (hK2 _ _ ?_)))
          clear hK2
          refine cseq ?_; intro K34 hK34
          refine creg ?_
          refine y (ev_build (zs := _) rfl Try.underlying35 Try.zeroValue35 rfl (.cons Try.sizeOf3 (.cons Try.sizeOf2 (.cons Try.sizeOf2 (.cons Try.sizeOf2 (.cons Try.sizeOf3 (.cons Try.sizeOf3 (.cons Try.sizeOf32 (.cons Try.sizeOf33 (.cons Try.sizeOf9 (.cons Try.sizeOf9 .nil)))))))))) trivial (by dsimp [fillL, splice, vcells] <;> rfl)) rfl ?_
          refine ya0 (ac_storeN rfl rfl (msg_one MsgM.zero) Try.sizeOf35 (by repeat first | exact .z | apply Rp.s) rfl (by simp [MsgM.cells]) rfl) ?_
          rintro v L' ⟨rfl, rfl⟩
          refine y (ev_assign rfl) rfl ?_
          refine ynil' (kthn (hK34 _ _ ?_))
          clear hK34
          refine cret ?_
          first
            | (exfalso; omega; done)
            | (refine kretct Try.results30 rfl rfl Try.isAgg35 Try.sizeOf35 (by repeat first | exact .z | apply In.s) rfl (L1 := [lifeP l q (ptr s) W.wait mb bad, ownM mb kv n, witP s c _, celP c q _, dev q _] ++ R) (by repeat first | exact .refl | exact .nil | exact .z | apply Pk.s | refine Ge.e ?_ | apply Ge.pick | apply Ge.drop) ?_
               obtain rfl : k = actT x.n := (by omega); rw [act_tick (W := W) (D := D) (g := g) (bad := bad) (x := x) (by omega)]; exact ⟨_, ⟨kv, n, s, c, rfl, hO, rfl⟩, rfl⟩)
            | (refine kretct Try.results30 rfl rfl Try.isAgg35 Try.sizeOf35 (by repeat first | exact .z | apply In.s) rfl (L1 := [lifeP l q (ptr s) W.wait mb bad, ownM mb kv n, witP s c _, celP c q _, dev q _] ++ R) (by repeat first | exact .refl | exact .nil | exact .z | apply Pk.s | refine Ge.e ?_ | apply Ge.pick | apply Ge.drop) ?_
               rw [hac]; exact ⟨_, ⟨kv, n, s, c, rfl, hO, rfl⟩, rfl⟩)
            | (refine kretct Try.results30 rfl rfl Try.isAgg35 Try.sizeOf35 (by repeat first | exact .z | apply In.s) rfl (L1 := [lifeP l q (ptr s138) W.wait mb _, ownM mb kv n, witP s138 c138 _, celP c138 q _, dev q _] ++ R) (by repeat first | exact .refl | exact .nil | exact .z | apply Pk.s | refine Ge.e ?_ | apply Ge.pick | apply Ge.drop) ?_
               rw [hac]; exact ⟨_, ⟨kv, n, s138, c138, rfl, hO, rfl⟩, rfl⟩)
            | (refine kretct Try.results30 rfl rfl Try.isAgg35 Try.sizeOf35 (by repeat first | exact .z | apply In.s) rfl (L1 := [lifeP l q (ptr s) W.wait mb bad, ownM mb kv n, witP s c _, celP c q _, dev q _] ++ R) (by repeat first | exact .refl | exact .nil | exact .z | apply Pk.s | refine Ge.e ?_ | apply Ge.pick | apply Ge.drop) ?_
               rw [act_fuse (W := W) (D := D) (g := g) (bad := bad) (x := x) (by omega)]; exact ⟨_, ⟨kv, n, s, c, rfl, hO, rfl⟩, rfl⟩)
            | (refine kretct Try.results30 rfl rfl Try.isAgg35 Try.sizeOf35 (by repeat first | exact .z | apply In.s) rfl (L1 := [lifeP l q (ptr s) W.wait mb bad, ownM mb kv n, witP s c _, celP c q _, dev q _] ++ R) (by repeat first | exact .refl | exact .nil | exact .z | apply Pk.s | refine Ge.e ?_ | apply Ge.pick | apply Ge.drop) ?_
               rw [act_else (W := W) (D := D) (g := g) (bad := bad) (x := x) (by omega) (by omega) (by omega) (by omega)]; exact ⟨_, ⟨kv, n, s, c, rfl, hO, rfl⟩, rfl⟩)
end W
end Go.Proofs
