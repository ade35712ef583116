/- A part of the proof: contracts and plain lemmas, each without conditions beyond those that it names. -/
import Derived.Test.YtnedokioglfipaaT20
import Derived.Test.YtnedokioglfipaaT14
import Derived.Test.YtnedokioglfipaaGC
set_option linter.unusedVariables false
set_option linter.unusedSimpArgs false
set_option linter.constructorNameAsVariable false
namespace Go.Proofs
open Go Go.Sl
namespace W
set_option linter.unusedVariables false
theorem cClash [Env] {R : List Seg} {nv wv v : Value} {now was : List Bytes} {wro : Bytes} (hn : RdV R nv now.length (strsV now)) (hw : RdV R wv was.length (strsV was)) (hl : now.length = was.length) (hwr : RdY R v wro) (h1 : ∀ b ∈ now, b.length ≤ 1000) (h2 : now.length ≤ 1000) :
    Con Try.prog 45 [nv, wv, v] [] R (Is (.bool (clashM now was wro)) []) := by
  have hwl := hwr.rd.lenVal
  refine con_enter Try.func45 Try.ntmps45 rfl rfl ?_
  refine cseq ?_; intro K1 hK1
  refine creg ?_
  refine y (ev_assign rfl) rfl ?_
  refine ynil' (kthn (hK1 _ _ ?_))
  clear hK1
  refine cseq ?_; intro K2 hK2
  refine cseq ?_; intro K3 hK3
  refine creg ?_
  refine y (ev_move rfl) rfl ?_
  first
    | refine y (ev_len rfl Try.underlying57) rfl ?_
    | refine y (ev_lenSv rfl Try.underlying57 (by assumption)) rfl ?_
    | refine y (ev_lenV rfl Try.underlying57 (RdV.lenVal (by assumption))) rfl ?_
    | refine y (ev_lenV rfl Try.underlying57 (RdB.lenVal (by assumption))) rfl ?_
  refine y (ev_move rfl) rfl ?_
  refine ynil' (kthn (hK3 _ _ ?_))
  clear hK3
  have hJ1 : ∀ x : Nat, ((x ≤ now.length ∧ ((now.zip was).take x).any (fun x => clashAt x.1 x.2 wro) = false) ∧ (x = now.length)) → Sk 60 K2 ([(12, i64 x), (11, i64 now.length), (0, nv), (1, wv), (2, v)]) (R) := by
    rintro k ⟨hI1, hX1⟩
    refine hK2 _ _ ?_
    obtain ⟨hk, hno⟩ := hI1
    subst hX1; have hcl := clash_all hl hno
    refine cseq ?_; intro K4 hK4
    refine creg ?_
    refine y (ev_assign rfl) rfl ?_
    refine ynil' (kthn (hK4 _ _ ?_))
    clear hK4
    refine cret ?_
    first
      | (exfalso; omega; done)
      | (refine kretv Try.results45 rfl (L1 := R) (by repeat first | exact .refl | exact .nil | exact .z | apply Pk.s | refine Ge.e ?_ | apply Ge.pick | apply Ge.drop) ?_
         exact ⟨_, ⟨by first | rfl | rw [hcl], rfl⟩, by first | rfl | rw [hcl]⟩)
  clear hK2
  refine cblock ?_
  refine cloop (A := Nat) (fun x => [(12, i64 x), (11, i64 now.length), (0, nv), (1, wv), (2, v)]) (fun x => R) (fun x => x ≤ now.length ∧ ((now.zip was).take x).any (fun x => clashAt x.1 x.2 wro) = false) (fun x => now.length - x) (0) ?_ (by repeat first | exact sub_nil | refine sub_cons rfl ?_ | refine sub_cons' rfl (by simp) ?_) (by repeat first | exact .refl | exact .nil | exact .z | apply Pk.s | refine Ge.e ?_ | apply Ge.pick | apply Ge.drop) ?_
  · exact ⟨Nat.zero_le _, by simp⟩
  rintro k hI1 KL1 hL1
  have hI1o := hI1
  obtain ⟨hk, hno⟩ := hI1
  refine cseq ?_; intro K5 hK5
  refine creg ?_
  refine y (ev_lss rfl rfl) rfl ?_
  refine ynil' (kthn (hK5 _ _ ?_))
  clear hK5
  refine cseq ?_; intro K6 hK6
  refine ccond rfl (fun h7 => ?_) (fun h7 => ?_)
  · (try simp only [decide_eq_true_eq, beq_iff_eq, beq_eq_false_iff_ne, decide_eq_decide, decide_eq_false_iff_not, Bool.not_eq_true', Bool.not_eq_false', Bool.not_eq_true, Bool.not_eq_false, Bool.not_not, ne_eq, Option.isNone_some, Option.isSome_some, Option.isNone_none, Option.isSome_none] at h7)
    obtain ⟨nw, hnw⟩ : ∃ t, now[k]? = some t := ⟨_, List.getElem?_eq_getElem (by omega)⟩
    obtain ⟨ws, hws⟩ : ∃ t, was[k]? = some t := ⟨_, List.getElem?_eq_getElem (by omega)⟩
    have hnl := h1 nw (List.mem_of_getElem? hnw)
    have hce := clashAt_eq nw ws wro
    refine cskip' (kthn (hK6 _ _ ?_))
    clear hK6
    refine cseq ?_; intro K7 hK7
    refine cblock ?_
    refine cseq ?_; intro K8 hK8
    refine creg ?_
    refine y (ev_move rfl) rfl ?_
    refine y (ev_assign rfl) rfl ?_
    refine ynil' (kthn (hK8 _ _ ?_))
    clear hK8
    refine cseq ?_; intro K9 hK9
    refine creg ?_
    refine y (ev_move rfl) rfl ?_
    refine y (ev_move rfl) rfl ?_
    refine y (ev_ixV hn rfl rfl Try.underlying57 Try.sizeOf9 (by omega) (by omega)) rfl ?_
    refine y (ev_loadV k hn (by repeat first | exact .refl | exact .nil | exact .z | apply Pk.s | refine Ge.e ?_ | apply Ge.pick | apply Ge.drop) rfl Try.isAgg9 (by simp) (strsV_get hnw)) rfl ?_
    refine ya (ac_toBytesY rfl Try.underlying9 Try.underlying27 Try.underlying5) rfl ?_
    rintro v L' ⟨b20, c20, sp20, fr20, rfl, hc20, rfl⟩
    refine ycall (rRead (bs := nw) ?hb15 ?len15) rfl Try.call58 (by repeat first | exact .nil | exact .z | apply Pk.s | apply Tk.cons) rfl ?_
    case hb15 => exact rdY_in (by repeat first | exact .z | apply In.s) hc20
    case len15 => exact hnl
    rintro v L' ⟨rfl, rfl⟩
    refine y (ev_move rfl) rfl ?_
    refine y (ev_extract rfl rfl) rfl ?_
    refine y (ev_extract rfl rfl) rfl ?_
    refine y (ev_assign rfl) rfl ?_
    refine y (ev_assign rfl) rfl ?_
    refine ynil' (kthn (hK9 _ _ ?_))
    clear hK9
    refine cseq ?_; intro K10 hK10
    refine cdraw 34 [(0, true), (1, true), (2, true), (3, true), (4, true), (5, true), (6, true), (7, true), (8, true), (9, true), (10, true), (11, true), (12, true), (13, true), (14, true), (15, true), (16, true), (17, true), (18, true), (19, true), (20, true), (21, true), (22, true), (23, true), (24, true), (25, true), (26, true), (27, true), (28, true), (29, true), (30, true), (31, true), (32, true), (33, true)] (_) Try.mixed (by kernel_rfl) .refl ?_
    refine hr rfl (ev_move rfl) rfl ?_
    refine hr rfl (ev_gtr rfl rfl) rfl ?_
    refine hr rfl (ev_move rfl) rfl ?_
    refine hsplit 26 rfl (fun h24 => ?_) (fun h24 => ?_)
    · (try simp only [decide_eq_true_eq, beq_iff_eq, beq_eq_false_iff_ne, decide_eq_decide, decide_eq_false_iff_not, Bool.not_eq_true', Bool.not_eq_false', Bool.not_eq_true, Bool.not_eq_false, Bool.not_not, ne_eq, Option.isNone_some, Option.isSome_some, Option.isNone_none, Option.isSome_none] at h24)
      refine hr1 rfl rfl rfl (ev_move rfl) rfl ?_
      refine hr1 rfl rfl rfl (ev_move rfl) rfl ?_
      refine hr1 rfl rfl rfl (ev_ixV hn rfl rfl Try.underlying57 Try.sizeOf9 (by omega) (by omega)) rfl ?_
      refine hr1 rfl rfl rfl (ev_loadV k hn (by repeat first | exact .refl | exact .nil | exact .z | apply Pk.s | refine Ge.e ?_ | apply Ge.pick | apply Ge.drop) rfl Try.isAgg9 (by simp) (strsV_get hnw)) rfl ?_
      refine hr1 rfl rfl rfl (ev_move rfl) rfl ?_
      refine hr1 rfl rfl rfl (ev_move rfl) rfl ?_
      refine hr1 rfl rfl rfl (ev_ixV hw rfl rfl Try.underlying57 Try.sizeOf9 (by omega) (by omega)) rfl ?_
      refine hr1 rfl rfl rfl (ev_loadV k hw (by repeat first | exact .refl | exact .nil | exact .z | apply Pk.s | refine Ge.e ?_ | apply Ge.pick | apply Ge.drop) rfl Try.isAgg9 (by simp) (strsV_get hws)) rfl ?_
      first
        | refine hr1 rfl rfl rfl (ev_neqL rfl rfl) rfl ?_
        | refine hr1 rfl rfl rfl (ev_neqS rfl rfl) rfl ?_
      refine hr rfl (ev_pick1 rfl rfl) rfl ?_
      refine hr rfl (ev_move rfl) rfl ?_
      refine hsplit 37 rfl (fun h36 => ?_) (fun h36 => ?_)
      · (try simp only [decide_eq_true_eq, beq_iff_eq, beq_eq_false_iff_ne, decide_eq_decide, decide_eq_false_iff_not, Bool.not_eq_true', Bool.not_eq_false', Bool.not_eq_true, Bool.not_eq_false, Bool.not_not, ne_eq, Option.isNone_some, Option.isSome_some, Option.isNone_none, Option.isSome_none] at h36)
        refine hr1 rfl rfl rfl (ev_move rfl) rfl ?_
        refine hr1 rfl rfl rfl (ev_lenV rfl Try.underlying27 hwl) rfl ?_
        refine hr1 rfl rfl rfl (ev_move rfl) rfl ?_
        refine hr1 rfl rfl rfl (ev_move rfl) rfl ?_
        refine hr1 rfl rfl rfl (ev_ixV hn rfl rfl Try.underlying57 Try.sizeOf9 (by omega) (by omega)) rfl ?_
        refine hr1 rfl rfl rfl (ev_loadV k hn (by repeat first | exact .refl | exact .nil | exact .z | apply Pk.s | refine Ge.e ?_ | apply Ge.pick | apply Ge.drop) rfl Try.isAgg9 (by simp) (strsV_get hnw)) rfl ?_
        first
          | refine hr1 rfl rfl rfl (ev_lenStr rfl Try.underlying9) rfl ?_
          | refine hr1 rfl rfl rfl (ev_lenS rfl Try.underlying9) rfl ?_
        refine hr1 rfl rfl rfl (ev_gtr rfl rfl) rfl ?_
        refine hr1 rfl rfl rfl (ev_move rfl) rfl ?_
        refine hsplit 46 rfl (fun h46 => ?_) (fun h46 => ?_)
        · (try simp only [decide_eq_true_eq, beq_iff_eq, beq_eq_false_iff_ne, decide_eq_decide, decide_eq_false_iff_not, Bool.not_eq_true', Bool.not_eq_false', Bool.not_eq_true, Bool.not_eq_false, Bool.not_not, ne_eq, Option.isNone_some, Option.isSome_some, Option.isNone_none, Option.isSome_none] at h46)
          refine hr0 rfl rfl rfl rfl rfl ?_
          refine hr0 rfl rfl rfl rfl rfl ?_
          refine hr0 rfl rfl rfl rfl rfl ?_
          refine hr0 rfl rfl rfl rfl rfl ?_
          refine hr0 rfl rfl rfl rfl rfl ?_
          refine hr0 rfl rfl rfl rfl rfl ?_
          refine hr0 rfl rfl rfl rfl rfl ?_
          refine hr0 rfl rfl rfl rfl rfl ?_
          refine hr0 rfl rfl rfl rfl rfl ?_
          refine hr0 rfl rfl rfl rfl rfl ?_
          refine hr1 rfl rfl rfl (ev_pick1 rfl rfl) rfl ?_
          refine hnil ?_
          refine y (ev_pick1 rfl rfl) rfl ?_
          refine hnoP' (kthn (hK10 _ _ ?_))
          clear hK10
          refine ccond1 rfl ?_
          refine cseq ?_; intro K11 hK11
          refine creg ?_
          have hca : clashAt nw ws wro = true := by rw [hce]; simp_all
          have hcl := clash_yes (wr := wro) hnw hws hca
          refine y (ev_assign rfl) rfl ?_
          refine ynil' (kthn (hK11 _ _ ?_))
          clear hK11
          refine cret (kbr (kthr (kthr (kbr (kthr ?_)))))
          first
            | (exfalso; omega; done)
            | (refine kretv Try.results45 rfl (L1 := R) (by repeat first | exact .refl | exact .nil | exact .z | apply Pk.s | refine Ge.e ?_ | apply Ge.pick | apply Ge.drop) ?_
               exact ⟨_, ⟨by first | rfl | rw [hcl], rfl⟩, by first | rfl | rw [hcl]⟩)
        · (try simp only [decide_eq_true_eq, beq_iff_eq, beq_eq_false_iff_ne, decide_eq_decide, decide_eq_false_iff_not, Bool.not_eq_true', Bool.not_eq_false', Bool.not_eq_true, Bool.not_eq_false, Bool.not_not, ne_eq, Option.isNone_some, Option.isSome_some, Option.isNone_none, Option.isSome_none] at h46)
          refine hr1 rfl rfl rfl (ev_move rfl) rfl ?_
          refine hr1 rfl rfl rfl (ev_move rfl) rfl ?_
          refine hr1 rfl rfl rfl (ev_ixV hn rfl rfl Try.underlying57 Try.sizeOf9 (by omega) (by omega)) rfl ?_
          refine hr1 rfl rfl rfl (ev_loadV k hn (by repeat first | exact .refl | exact .nil | exact .z | apply Pk.s | refine Ge.e ?_ | apply Ge.pick | apply Ge.drop) rfl Try.isAgg9 (by simp) (strsV_get hnw)) rfl ?_
          refine hr1 rfl rfl rfl (ev_move rfl) rfl ?_
          refine hr1 rfl rfl rfl (ev_lenV rfl Try.underlying27 hwl) rfl ?_
          refine hr1 rfl rfl rfl (ev_slStrH rfl rfl Try.underlying9 (by omega) (by omega)) rfl ?_
          refine hr1 rfl rfl rfl (ev_move rfl) rfl ?_
          refine hr1 rfl rfl rfl (ev_toStrB hwr.rd.bytes (by repeat first | exact .refl | exact .nil | exact .z | apply Pk.s | refine Ge.e ?_ | apply Ge.pick | apply Ge.drop) rfl Try.underlying27 Try.underlying9 Try.underlying5) rfl ?_
          first
            | refine hr1 rfl rfl rfl (ev_neqL rfl rfl) rfl ?_
            | refine hr1 rfl rfl rfl (ev_neqS rfl rfl) rfl ?_
          refine hr1 rfl rfl rfl (ev_pick0 rfl rfl) rfl ?_
          refine hnil ?_
          refine y (ev_pick1 rfl rfl) rfl ?_
          refine hnoP' (kthn (hK10 _ _ ?_))
          clear hK10
          refine ccond rfl (fun h62 => ?_) (fun h62 => ?_)
          · (try simp only [decide_eq_true_eq, beq_iff_eq, beq_eq_false_iff_ne, decide_eq_decide, decide_eq_false_iff_not, Bool.not_eq_true', Bool.not_eq_false', Bool.not_eq_true, Bool.not_eq_false, Bool.not_not, ne_eq, Option.isNone_some, Option.isSome_some, Option.isNone_none, Option.isSome_none] at h62)
            refine cseq ?_; intro K12 hK12
            refine creg ?_
            have hca : clashAt nw ws wro = true := by rw [hce]; simp_all
            have hcl := clash_yes (wr := wro) hnw hws hca
            refine y (ev_assign rfl) rfl ?_
            refine ynil' (kthn (hK12 _ _ ?_))
            clear hK12
            refine cret (kbr (kthr (kthr (kbr (kthr ?_)))))
            first
              | (exfalso; omega; done)
              | (refine kretv Try.results45 rfl (L1 := R) (by repeat first | exact .refl | exact .nil | exact .z | apply Pk.s | refine Ge.e ?_ | apply Ge.pick | apply Ge.drop) ?_
                 exact ⟨_, ⟨by first | rfl | rw [hcl], rfl⟩, by first | rfl | rw [hcl]⟩)
          · (try simp only [decide_eq_true_eq, beq_iff_eq, beq_eq_false_iff_ne, decide_eq_decide, decide_eq_false_iff_not, Bool.not_eq_true', Bool.not_eq_false', Bool.not_eq_true, Bool.not_eq_false, Bool.not_not, ne_eq, Option.isNone_some, Option.isSome_some, Option.isNone_none, Option.isSome_none] at h62)
            refine cskip' (kbn (kthn (hK7 _ _ ?_)))
            clear hK7
            refine creg ?_
            have hca : clashAt nw ws wro = false := by rw [hce]; simp only [Bool.and_eq_false_iff, Bool.or_eq_false_iff, decide_eq_false_iff_not]; first | exact .inl (.inl (by omega)) | exact .inl (.inr (by assumption)) | exact .inr ⟨by omega, by assumption⟩
            have hno2 : ((now.zip was).take (k + 1)).any (fun x => clashAt x.1 x.2 wro) = false := by rw [clash_succ hnw hws, hno, hca]; rfl
            refine y (ev_add rfl rfl) rfl ?_
            rw [show IntKind.i64.wrap ((k:Int) + 1) = ((k+1 : Nat) : Int) by rw [wr (by omega) (by omega)]; rfl]
            refine y (ev_move rfl) rfl ?_
            refine ynil' (kthn ?_)
            exact hL1 (k + 1) (⟨by omega, hno2⟩) (by omega) _ _ (by repeat first | exact sub_nil | refine sub_cons rfl ?_ | refine sub_cons' rfl (by simp) ?_) (by repeat first | exact .refl | exact .nil | exact .z | apply Pk.s | refine Ge.e ?_ | apply Ge.pick | apply Ge.drop)
      · (try simp only [decide_eq_true_eq, beq_iff_eq, beq_eq_false_iff_ne, decide_eq_decide, decide_eq_false_iff_not, Bool.not_eq_true', Bool.not_eq_false', Bool.not_eq_true, Bool.not_eq_false, Bool.not_not, ne_eq, Option.isNone_some, Option.isSome_some, Option.isNone_none, Option.isSome_none] at h36)
        refine hr0 rfl rfl rfl rfl rfl ?_
        refine hr0 rfl rfl rfl rfl rfl ?_
        refine hr0 rfl rfl rfl rfl rfl ?_
        refine hr0 rfl rfl rfl rfl rfl ?_
        refine hr0 rfl rfl rfl rfl rfl ?_
        refine hr0 rfl rfl rfl rfl rfl ?_
        refine hr0 rfl rfl rfl rfl rfl ?_
        refine hr0 rfl rfl rfl rfl rfl ?_
        refine hr0 rfl rfl rfl rfl rfl ?_
        refine hr0u rfl rfl rfl rfl ?_
        refine hr0u rfl rfl rfl rfl ?_
        refine hr0u rfl rfl rfl rfl ?_
        refine hr0u rfl rfl rfl rfl ?_
        refine hr0u rfl rfl rfl rfl ?_
        refine hr0u rfl rfl rfl rfl ?_
        refine hr0u rfl rfl rfl rfl ?_
        refine hr0u rfl rfl rfl rfl ?_
        refine hr0u rfl rfl rfl rfl ?_
        refine hr0u rfl rfl rfl rfl ?_
        refine hr0 rfl rfl rfl rfl rfl ?_
        refine hnil ?_
        refine y (ev_pick0 rfl rfl) rfl ?_
        refine hnoP' (kthn (hK10 _ _ ?_))
        clear hK10
        refine ccond0 rfl ?_
        refine cskip' (kbn (kthn (hK7 _ _ ?_)))
        clear hK7
        refine creg ?_
        have hca : clashAt nw ws wro = false := by rw [hce]; simp only [Bool.and_eq_false_iff, Bool.or_eq_false_iff, decide_eq_false_iff_not]; first | exact .inl (.inl (by omega)) | exact .inl (.inr (by assumption)) | exact .inr ⟨by omega, by assumption⟩
        have hno2 : ((now.zip was).take (k + 1)).any (fun x => clashAt x.1 x.2 wro) = false := by rw [clash_succ hnw hws, hno, hca]; rfl
        refine y (ev_add rfl rfl) rfl ?_
        rw [show IntKind.i64.wrap ((k:Int) + 1) = ((k+1 : Nat) : Int) by rw [wr (by omega) (by omega)]; rfl]
        refine y (ev_move rfl) rfl ?_
        refine ynil' (kthn ?_)
        exact hL1 (k + 1) (⟨by omega, hno2⟩) (by omega) _ _ (by repeat first | exact sub_nil | refine sub_cons rfl ?_ | refine sub_cons' rfl (by simp) ?_) (by repeat first | exact .refl | exact .nil | exact .z | apply Pk.s | refine Ge.e ?_ | apply Ge.pick | apply Ge.drop)
    · (try simp only [decide_eq_true_eq, beq_iff_eq, beq_eq_false_iff_ne, decide_eq_decide, decide_eq_false_iff_not, Bool.not_eq_true', Bool.not_eq_false', Bool.not_eq_true, Bool.not_eq_false, Bool.not_not, ne_eq, Option.isNone_some, Option.isSome_some, Option.isNone_none, Option.isSome_none] at h24)
      refine hr0 rfl rfl rfl rfl rfl ?_
      refine hr0 rfl rfl rfl rfl rfl ?_
      refine hr0 rfl rfl rfl rfl rfl ?_
      refine hr0 rfl rfl rfl rfl rfl ?_
      refine hr0 rfl rfl rfl rfl rfl ?_
      refine hr0 rfl rfl rfl rfl rfl ?_
      refine hr0 rfl rfl rfl rfl rfl ?_
      refine hr0 rfl rfl rfl rfl rfl ?_
      refine hr0 rfl rfl rfl rfl rfl ?_
      refine hr rfl (ev_pick0 rfl rfl) rfl ?_
      refine hr rfl (ev_move rfl) rfl ?_
      refine hr0 rfl rfl rfl rfl rfl ?_
      refine hr0 rfl rfl rfl rfl rfl ?_
      refine hr0 rfl rfl rfl rfl rfl ?_
      refine hr0 rfl rfl rfl rfl rfl ?_
      refine hr0 rfl rfl rfl rfl rfl ?_
      refine hr0 rfl rfl rfl rfl rfl ?_
      refine hr0 rfl rfl rfl rfl rfl ?_
      refine hr0 rfl rfl rfl rfl rfl ?_
      refine hr0 rfl rfl rfl rfl rfl ?_
      refine hr0u rfl rfl rfl rfl ?_
      refine hr0u rfl rfl rfl rfl ?_
      refine hr0u rfl rfl rfl rfl ?_
      refine hr0u rfl rfl rfl rfl ?_
      refine hr0u rfl rfl rfl rfl ?_
      refine hr0u rfl rfl rfl rfl ?_
      refine hr0u rfl rfl rfl rfl ?_
      refine hr0u rfl rfl rfl rfl ?_
      refine hr0u rfl rfl rfl rfl ?_
      refine hr0u rfl rfl rfl rfl ?_
      refine hr0 rfl rfl rfl rfl rfl ?_
      refine hnil ?_
      refine y (ev_pick0 rfl rfl) rfl ?_
      refine hnoP' (kthn (hK10 _ _ ?_))
      clear hK10
      refine ccond0 rfl ?_
      refine cskip' (kbn (kthn (hK7 _ _ ?_)))
      clear hK7
      refine creg ?_
      have hca : clashAt nw ws wro = false := by rw [hce]; simp only [Bool.and_eq_false_iff, Bool.or_eq_false_iff, decide_eq_false_iff_not]; first | exact .inl (.inl (by omega)) | exact .inl (.inr (by assumption)) | exact .inr ⟨by omega, by assumption⟩
      have hno2 : ((now.zip was).take (k + 1)).any (fun x => clashAt x.1 x.2 wro) = false := by rw [clash_succ hnw hws, hno, hca]; rfl
      refine y (ev_add rfl rfl) rfl ?_
      rw [show IntKind.i64.wrap ((k:Int) + 1) = ((k+1 : Nat) : Int) by rw [wr (by omega) (by omega)]; rfl]
      refine y (ev_move rfl) rfl ?_
      refine ynil' (kthn ?_)
      exact hL1 (k + 1) (⟨by omega, hno2⟩) (by omega) _ _ (by repeat first | exact sub_nil | refine sub_cons rfl ?_ | refine sub_cons' rfl (by simp) ?_) (by repeat first | exact .refl | exact .nil | exact .z | apply Pk.s | refine Ge.e ?_ | apply Ge.pick | apply Ge.drop)
  · (try simp only [decide_eq_true_eq, beq_iff_eq, beq_eq_false_iff_ne, decide_eq_decide, decide_eq_false_iff_not, Bool.not_eq_true', Bool.not_eq_false', Bool.not_eq_true, Bool.not_eq_false, Bool.not_not, ne_eq, Option.isNone_some, Option.isSome_some, Option.isNone_none, Option.isSome_none] at h7)
    refine cexit (kthx (kthx (kbx (kthn ?_))))
    exact ksub (by repeat first | exact sub_nil | refine sub_cons rfl ?_ | refine sub_cons' rfl (by simp) ?_) (by repeat first | exact .refl | exact .nil | exact .z | apply Pk.s | refine Ge.e ?_ | apply Ge.pick | apply Ge.drop) (hJ1 k ⟨hI1o, by first | trivial | omega⟩)
theorem cPutRes [Env] {R : List Seg} {c : Nat} {q : Q3} {C : CellM} {D : Dev} {s : Bytes} (hL : Live D 2) (hC : C.ok 2) (hs : s.length ≤ 100) (hg : C.gen < 4611686018427387904) :
    Con Try.prog 43 [ptr c, str s] [celP c q C, dev q D] R (fun u L' => ∃ r, u = i64 r.1 ∧ PutRes C D s 2 r ∧ L' = [celP c q r.2.1, dev q r.2.2]) := by
  refine (cPut (by rw [hL.len]; exact hC) hL.ok).mono ?_
  rintro v L ⟨rfl, rfl⟩
  exact ⟨_, rfl, put_res hL hC hs hg, rfl⟩
theorem cPutLong [Env] {R : List Seg} {c : Nat} {q : Q3} {C : CellM} {D : Dev} {s : Bytes} (hL : Live D 2) (hC : C.ok 2) (hs : (100 : Int) < s.length) :
    Con Try.prog 43 [ptr c, str s] [celP c q C, dev q D] R (Is (i64 3) [celP c q C, dev q D]) := by
  refine (cPut (by rw [hL.len]; exact hC) hL.ok).mono ?_
  rintro v L ⟨rfl, rfl⟩
  rw [put_long hs]
  exact ⟨rfl, rfl⟩
theorem lawKeeps [Env] {R : List Seg} {lv kv : Value} {fu : Int} {ts : List Bytes} {ks : Keeps} (hl : RdV R lv ts.length (strsV ts)) (hkk : RdV R kv ks.length (keepsV ks)) (hf : fu ≤ 9223372036854775807) :
    Con Try.prog 13 [lv, i64 fu, kv] [] R (Is (.bool true) []) := by
  have hU0 : Up (Dev.new 2) 2 := new_up (by decide)
  have hE0 : openE (Dev.new 2) 0 1 = 0 := openE_up hU0 (by decide) (by decide) (by decide)
  have hC0 : openC (Dev.new 2) 0 1 = CellM.init 0 1 := open_new (by decide) (by decide) (by decide) (by decide)
  have hL1 : Live ((Dev.new 2).setFuse fu) 2 := ⟨Dev.setFuse_ok hU0.ok hf, by simp [Dev.setFuse, Dev.new], rfl, rfl⟩
  have hw1 : Whole ((Dev.new 2).setFuse fu) (CellM.init 0 1) [] 0 := ⟨hL1, by rw [← hC0]; rfl, rfl, rfl⟩
  refine con_enter Try.func13 Try.ntmps13 rfl rfl ?_
  refine cseq ?_; intro K1 hK1
  refine creg ?_
  refine y (ev_assign rfl) rfl ?_
  refine ynil' (kthn (hK1 _ _ ?_))
  clear hK1
  refine cseq ?_; intro K2 hK2
  refine cseq ?_; intro K3 hK3
  refine creg ?_
  refine ycall (awake5) rfl Try.call37 (by repeat first | exact .nil | exact .z | apply Pk.s | apply Tk.cons) rfl ?_
  rintro v L' ⟨rfl, rfl⟩
  refine y (ev_not rfl) rfl ?_
  refine ynil' (kthn (hK3 _ _ ?_))
  clear hK3
  refine ccond rfl (fun h77 => ?_) (fun h77 => ?_)
  · (try simp only [decide_eq_true_eq, beq_iff_eq, beq_eq_false_iff_ne, decide_eq_decide, decide_eq_false_iff_not, Bool.not_eq_true', Bool.not_eq_false', Bool.not_eq_true, Bool.not_eq_false, Bool.not_not, ne_eq, Option.isNone_some, Option.isSome_some, Option.isNone_none, Option.isSome_none] at h77)
    refine cseq ?_; intro K4 hK4
    refine creg ?_
    refine y (ev_assign rfl) rfl ?_
    refine ynil' (kthn (hK4 _ _ ?_))
    clear hK4
    refine cret (kthr ?_)
    first
      | (exfalso; omega; done)
      | (refine kretv Try.results13 rfl (L1 := R) (by repeat first | exact .refl | exact .nil | exact .z | apply Pk.s | refine Ge.e ?_ | apply Ge.pick | apply Ge.drop) ?_
         exact ⟨_, ⟨by first | rfl | (exfalso; simp_all; done), rfl⟩, by first | rfl | (exfalso; simp_all; done)⟩)
  · (try simp only [decide_eq_true_eq, beq_iff_eq, beq_eq_false_iff_ne, decide_eq_decide, decide_eq_false_iff_not, Bool.not_eq_true', Bool.not_eq_false', Bool.not_eq_true, Bool.not_eq_false, Bool.not_not, ne_eq, Option.isNone_some, Option.isSome_some, Option.isNone_none, Option.isSome_none] at h77)
    refine cskip' (kthn (hK2 _ _ ?_))
    clear hK2
    refine cseq ?_; intro K5 hK5
    refine creg ?_
    refine ycall (secNew (n := 2) (by omega)) rfl Try.call15 (by repeat first | exact .nil | exact .z | apply Pk.s | apply Tk.cons) rfl ?_
    rintro v L' ⟨q20, rfl, rfl⟩
    refine y (ev_assign rfl) rfl ?_
    refine ynil' (kthn (hK5 _ _ ?_))
    clear hK5
    refine cseq ?_; intro K6 hK6
    refine cseq ?_; intro K7 hK7
    refine creg ?_
    refine y (ev_move rfl) rfl ?_
    skip
    · skip
      refine y (ev_eqlPnil rfl rfl Try.underlying24) rfl ?_
      refine y (ev_move rfl) rfl ?_
      refine yg1 rfl rfl ?_
      refine y (ev_move rfl) rfl ?_
      refine yg1 rfl rfl ?_
      first
        | refine y (ev_len rfl Try.underlying28) rfl ?_
        | refine y (ev_lenSv rfl Try.underlying28 (by assumption)) rfl ?_
        | refine y (ev_lenV rfl Try.underlying28 (RdV.lenVal (by assumption))) rfl ?_
        | refine y (ev_lenV rfl Try.underlying28 (RdB.lenVal (by assumption))) rfl ?_
      refine yg1 rfl rfl ?_
      refine y (ev_gtr rfl rfl) rfl ?_
      refine y (ev_pick0 rfl rfl) rfl ?_
      refine ynil' (kthn (hK7 _ _ ?_))
      clear hK7
      refine ccond rfl (fun h88 => ?_) (fun h88 => ?_)
      · (try simp only [decide_eq_true_eq, beq_iff_eq, beq_eq_false_iff_ne, decide_eq_decide, decide_eq_false_iff_not, Bool.not_eq_true', Bool.not_eq_false', Bool.not_eq_true, Bool.not_eq_false, Bool.not_not, ne_eq, Option.isNone_some, Option.isSome_some, Option.isNone_none, Option.isSome_none] at h88)
        refine cseq ?_; intro K8 hK8
        refine creg ?_
        refine y (ev_move rfl) rfl ?_
        refine y (ev_neqPnil rfl rfl Try.underlying24) rfl ?_
        refine y (ev_assign rfl) rfl ?_
        refine ynil' (kthn (hK8 _ _ ?_))
        clear hK8
        refine cret (kthr ?_)
        first
          | (exfalso; omega; done)
          | (refine kretv Try.results13 rfl (L1 := R) (by repeat first | exact .refl | exact .nil | exact .z | apply Pk.s | refine Ge.e ?_ | apply Ge.pick | apply Ge.drop) ?_
             exact ⟨_, ⟨by first | rfl | (exfalso; simp_all; done), rfl⟩, by first | rfl | (exfalso; simp_all; done)⟩)
      · (try simp only [decide_eq_true_eq, beq_iff_eq, beq_eq_false_iff_ne, decide_eq_decide, decide_eq_false_iff_not, Bool.not_eq_true', Bool.not_eq_false', Bool.not_eq_true, Bool.not_eq_false, Bool.not_not, ne_eq, Option.isNone_some, Option.isSome_some, Option.isNone_none, Option.isSome_none] at h88)
        refine cskip' (kthn (hK6 _ _ ?_))
        clear hK6
        refine cseq ?_; intro K9 hK9
        refine creg ?_
        refine y (ev_move rfl) rfl ?_
        refine ycall (cOpenGood hU0.ok hE0) rfl Try.call40 (by repeat first | exact .nil | exact .z | apply Pk.s | apply Tk.cons) rfl ?_
        rintro v L' ⟨c0, rfl, rfl⟩
        rw [hC0]
        refine y (ev_move rfl) rfl ?_
        refine y (ev_extract rfl rfl) rfl ?_
        refine y (ev_extract rfl rfl) rfl ?_
        refine y (ev_assign rfl) rfl ?_
        refine y (ev_assign rfl) rfl ?_
        refine ynil' (kthn (hK9 _ _ ?_))
        clear hK9
        refine cseq ?_; intro K10 hK10
        refine cseq ?_; intro K11 hK11
        refine creg ?_
        refine y (ev_move rfl) rfl ?_
        skip
        · skip
          refine y (ev_eqlPnil rfl rfl Try.underlying61) rfl ?_
          refine y (ev_move rfl) rfl ?_
          refine yg1 rfl rfl ?_
          refine y (ev_move rfl) rfl ?_
          refine yg1 rfl rfl ?_
          refine y (ev_neq rfl rfl) rfl ?_
          refine y (ev_pick0 rfl rfl) rfl ?_
          refine ynil' (kthn (hK11 _ _ ?_))
          clear hK11
          refine ccond0 rfl ?_
          refine cskip' (kthn (hK10 _ _ ?_))
          clear hK10
          refine cseq ?_; intro K12 hK12
          refine creg ?_
          refine y (ev_assign rfl) rfl ?_
          refine ynil' (kthn (hK12 _ _ ?_))
          clear hK12
          refine cseq ?_; intro K13 hK13
          refine creg ?_
          refine y (ev_assign rfl) rfl ?_
          refine ynil' (kthn (hK13 _ _ ?_))
          clear hK13
          refine cseq ?_; intro K14 hK14
          refine creg ?_
          refine y (ev_assign rfl) rfl ?_
          refine ynil' (kthn (hK14 _ _ ?_))
          clear hK14
          refine cseq ?_; intro K15 hK15
          refine creg ?_
          refine y (ev_assign rfl) rfl ?_
          refine ynil' (kthn (hK15 _ _ ?_))
          clear hK15
          refine cseq ?_; intro K16 hK16
          refine creg ?_
          refine y (ev_move rfl) rfl ?_
          refine y (ev_move rfl) rfl ?_
          refine ycall (secFuse) rfl Try.call16 (by repeat first | exact .nil | exact .z | apply Pk.s | apply Tk.cons) rfl ?_
          rintro v L' ⟨rfl, rfl⟩
          refine ynil' (kthn (hK16 _ _ ?_))
          clear hK16
          refine cseq ?_; intro K17 hK17
          refine creg ?_
          refine y (ev_move rfl) rfl ?_
          refine ycall (cSlots ?ok113 ?ha113 ?hb113) rfl Try.call44 (by repeat first | exact .nil | exact .z | apply Pk.s | apply Tk.cons) rfl ?_
          case ok113 => exact hL1.ok
          case ha113 => exact hL1.has (by decide) (by decide)
          case hb113 => exact hL1.has (by decide) (by decide)
          rintro v L' ⟨p45, rfl, rfl⟩
          generalize (Dev.new 2).setFuse fu = DF at *
          refine y (ev_assign rfl) rfl ?_
          refine ynil' (kthn (hK17 _ _ ?_))
          clear hK17
          refine cseq ?_; intro K18 hK18
          refine cseq ?_; intro K19 hK19
          refine creg ?_
          refine y (ev_assign rfl) rfl ?_
          refine ynil' (kthn (hK19 _ _ ?_))
          clear hK19
          have hJ1 : ∀ x : Nat × Dev × CellM × Bytes × Int × Nat × Bytes × Bytes × Bool × Bytes, ((KeepI x.2.1 x.2.2.1 x.2.2.2.1 x.2.2.2.2.1 x.2.2.2.2.2.2.1 x.2.2.2.2.2.2.2.1 x.2.2.2.2.2.2.2.2.2 x.2.2.2.2.2.2.2.2.1 ∧ 0 ≤ x.2.2.2.2.1 ∧ x.2.2.2.2.1 ≤ x.1 ∧ x.1 ≤ ts.length ∧ x.1 ≤ 60) ∧ (True)) → Sk 143 K18 ([(15, i64 x.1), (14, .slice (some ⟨x.2.2.2.2.2.1, 0, none⟩) 2 2), (13, .bool x.2.2.2.2.2.2.2.2.1), (12, str x.2.2.2.2.2.2.2.2.2), (11, i64 x.2.2.2.2.1), (10, str x.2.2.2.1), (8, ptr c0), (7, dp q20), (0, lv), (2, kv)]) ([celP c0 q20 x.2.2.1, dev q20 x.2.1, sc x.2.2.2.2.2.1 [str x.2.2.2.2.2.2.1, str x.2.2.2.2.2.2.2.1] 9] ++ R) := by
            rintro ⟨k, D, C, last, g, p, w0, w1, under, next⟩ ⟨hI1, hX1⟩
            refine hK18 _ _ ?_
            obtain ⟨hki, hg0, hgk, hk1, hk2⟩ := hI1; dsimp only at hki hg0 hgk hk1 hk2 ⊢
            refine cseq ?_; intro K20 hK20
            refine creg ?_
            refine y (ev_move rfl) rfl ?_
            refine y (ev_move rfl) rfl ?_
            refine ycall (secCrash (ks := ks) ?ok118 ?ks118) rfl Try.call25 (by repeat first | exact .nil | exact .z | apply Pk.s | apply Tk.cons) rfl ?_
            case ok118 => exact hki.ok.1
            case ks118 => exact hkk.mono (by repeat first | exact .refl | exact .nil | exact .z | apply Pk.s | refine Ge.e ?_ | apply Ge.pick | apply Ge.drop)
            rintro v L' ⟨rfl, rfl⟩
            have hkey := keeps_all hki ks
            have hU2 := crash_up hki.ok.1 ks
            rw [hki.ok.2] at hU2
            generalize D.crash ks = D2 at *
            have hE2 : openE D2 0 1 = 0 := openE_up hU2 (by decide) (by decide) (by decide)
            refine ynil' (kthn (hK20 _ _ ?_))
            clear hK20
            refine cseq ?_; intro K21 hK21
            refine creg ?_
            refine y (ev_move rfl) rfl ?_
            refine ycall (cOpenGood hU2.ok hE2) rfl Try.call40 (by repeat first | exact .nil | exact .z | apply Pk.s | apply Tk.cons) rfl ?_
            rintro v L' ⟨c2, rfl, rfl⟩
            refine y (ev_move rfl) rfl ?_
            refine y (ev_extract rfl rfl) rfl ?_
            refine y (ev_extract rfl rfl) rfl ?_
            refine y (ev_assign rfl) rfl ?_
            refine y (ev_assign rfl) rfl ?_
            refine ynil' (kthn (hK21 _ _ ?_))
            clear hK21
            refine cseq ?_; intro K22 hK22
            refine cseq ?_; intro K23 hK23
            refine creg ?_
            refine y (ev_move rfl) rfl ?_
            skip
            · skip
              refine y (ev_eqlPnil rfl rfl Try.underlying61) rfl ?_
              refine y (ev_move rfl) rfl ?_
              refine yg1 rfl rfl ?_
              refine y (ev_move rfl) rfl ?_
              refine yg1 rfl rfl ?_
              refine y (ev_neq rfl rfl) rfl ?_
              refine y (ev_pick0 rfl rfl) rfl ?_
              refine ynil' (kthn (hK23 _ _ ?_))
              clear hK23
              refine ccond0 rfl ?_
              refine cskip' (kthn (hK22 _ _ ?_))
              clear hK22
              refine cseq ?_; intro K24 hK24
              refine cseq ?_; intro K25 hK25
              refine creg ?_
              rcases hkey with ⟨h1, h2⟩ | ⟨rfl, h1, h2⟩ | ⟨rfl, h1⟩
              · skip
                refine y (ev_move rfl) rfl ?_
                refine ycall (cGet) rfl Try.call41 (by repeat first | exact .nil | exact .z | apply Pk.s | apply Tk.cons) rfl ?_
                rintro v L' ⟨rfl, rfl⟩
                refine y (ev_move rfl) rfl ?_
                first
                  | refine y (ev_eqlL rfl rfl) rfl ?_
                  | refine y (ev_eqlS rfl rfl) rfl ?_
                try rw [h1, show decide (last = last) = true by simp]
                refine y (ev_move rfl) rfl ?_
                refine yg1 rfl rfl ?_
                refine y (ev_move rfl) rfl ?_
                refine yg1 rfl rfl ?_
                refine ycall (cGen) rfl Try.call42 (by repeat first | exact .nil | exact .z | apply Pk.s | apply Tk.cons) rfl ?_
                rintro v L' ⟨rfl, rfl⟩
                refine yg1 rfl rfl ?_
                refine y (ev_move rfl) rfl ?_
                refine yg1 rfl rfl ?_
                refine y (ev_eql rfl rfl) rfl ?_
                first | rw [h2, show decide (g = g) = true by simp] | rw [show decide ((openC D2 0 1).gen = g) = false by simp; omega] | skip
                refine y (ev_pick1 rfl rfl) rfl ?_
                refine y (ev_move rfl) rfl ?_
                refine yg0 rfl rfl rfl rfl ?_
                refine yg0 rfl rfl rfl rfl ?_
                refine yg0u rfl rfl rfl ?_
                refine yg0u rfl rfl rfl ?_
                refine yg0u rfl rfl rfl ?_
                refine yg0u rfl rfl rfl ?_
                refine yg0 rfl rfl rfl rfl ?_
                refine yg0 rfl rfl rfl rfl ?_
                refine yg0u rfl rfl rfl ?_
                refine yg0u rfl rfl rfl ?_
                refine yg0u rfl rfl rfl ?_
                refine yg0u rfl rfl rfl ?_
                refine yg0u rfl rfl rfl ?_
                refine yg0 rfl rfl rfl rfl ?_
                refine y (ev_pick1 rfl rfl) rfl ?_
                refine ynil' (kthn (hK25 _ _ ?_))
                clear hK25
                refine ccond1 rfl ?_
                refine cseq ?_; intro K26 hK26
                refine creg ?_
                refine y (ev_assign rfl) rfl ?_
                refine ynil' (kthn (hK26 _ _ ?_))
                clear hK26
                refine cret (kthr ?_)
                first
                  | (exfalso; omega; done)
                  | (refine kretv Try.results13 rfl (L1 := R) (by repeat first | exact .refl | exact .nil | exact .z | apply Pk.s | refine Ge.e ?_ | apply Ge.pick | apply Ge.drop) ?_
                     exact ⟨_, ⟨by first | rfl | (exfalso; simp_all; done), rfl⟩, by first | rfl | (exfalso; simp_all; done)⟩)
              · skip
                refine y (ev_move rfl) rfl ?_
                refine ycall (cGet) rfl Try.call41 (by repeat first | exact .nil | exact .z | apply Pk.s | apply Tk.cons) rfl ?_
                rintro v L' ⟨rfl, rfl⟩
                refine y (ev_move rfl) rfl ?_
                first
                  | refine y (ev_eqlL rfl rfl) rfl ?_
                  | refine y (ev_eqlS rfl rfl) rfl ?_
                try rw [h1, show decide (last = last) = true by simp]
                refine y (ev_move rfl) rfl ?_
                refine ysplit 110 rfl (fun h150 => ?_) (fun h150 => ?_)
                · (try simp only [decide_eq_true_eq, beq_iff_eq, beq_eq_false_iff_ne, decide_eq_decide, decide_eq_false_iff_not, Bool.not_eq_true', Bool.not_eq_false', Bool.not_eq_true, Bool.not_eq_false, Bool.not_not, ne_eq, Option.isNone_some, Option.isSome_some, Option.isNone_none, Option.isSome_none] at h150)
                  refine yg1 rfl rfl ?_
                  refine y (ev_move rfl) rfl ?_
                  refine yg1 rfl rfl ?_
                  refine ycall (cGen) rfl Try.call42 (by repeat first | exact .nil | exact .z | apply Pk.s | apply Tk.cons) rfl ?_
                  rintro v L' ⟨rfl, rfl⟩
                  refine yg1 rfl rfl ?_
                  refine y (ev_move rfl) rfl ?_
                  refine yg1 rfl rfl ?_
                  refine y (ev_eql rfl rfl) rfl ?_
                  first | rw [h2, show decide (g = g) = true by simp] | rw [show decide ((openC D2 0 1).gen = g) = false by simp; omega] | skip
                  refine y (ev_pick1 rfl rfl) rfl ?_
                  refine y (ev_move rfl) rfl ?_
                  refine yg1 rfl rfl ?_
                  refine y (ev_move rfl) rfl ?_
                  refine yg1 rfl rfl ?_
                  refine y (ev_move rfl) rfl ?_
                  refine ysplit 118 rfl (fun h159 => ?_) (fun h159 => ?_)
                  · (try simp only [decide_eq_true_eq, beq_iff_eq, beq_eq_false_iff_ne, decide_eq_decide, decide_eq_false_iff_not, Bool.not_eq_true', Bool.not_eq_false', Bool.not_eq_true, Bool.not_eq_false, Bool.not_not, ne_eq, Option.isNone_some, Option.isSome_some, Option.isNone_none, Option.isSome_none] at h159)
                    refine yg1 rfl rfl ?_
                    refine y (ev_move rfl) rfl ?_
                    refine yg1 rfl rfl ?_
                    refine ycall (cGet) rfl Try.call41 (by repeat first | exact .nil | exact .z | apply Pk.s | apply Tk.cons) rfl ?_
                    rintro v L' ⟨rfl, rfl⟩
                    refine yg1 rfl rfl ?_
                    refine y (ev_move rfl) rfl ?_
                    refine yg1 rfl rfl ?_
                    first
                      | refine y (ev_eqlL rfl rfl) rfl ?_
                      | refine y (ev_eqlS rfl rfl) rfl ?_
                    try rw [h1, show decide (next = next) = true by simp]
                    refine yg1 rfl rfl ?_
                    refine y (ev_pick1 rfl rfl) rfl ?_
                    refine yg1 rfl rfl ?_
                    refine y (ev_move rfl) rfl ?_
                    refine yg1 rfl rfl ?_
                    refine y (ev_move rfl) rfl ?_
                    refine yg1 rfl rfl ?_
                    refine ycall (cGen) rfl Try.call42 (by repeat first | exact .nil | exact .z | apply Pk.s | apply Tk.cons) rfl ?_
                    rintro v L' ⟨rfl, rfl⟩
                    refine yg1 rfl rfl ?_
                    refine y (ev_move rfl) rfl ?_
                    refine yg1 rfl rfl ?_
                    refine y (ev_add rfl rfl) rfl ?_
                    rw [wr (by omega) (by omega)]
                    refine yg1 rfl rfl ?_
                    refine y (ev_eql rfl rfl) rfl ?_
                    try rw [h2, show decide (g + 1 = g + 1) = true by simp]
                    refine yg1 rfl rfl ?_
                    refine y (ev_pick1 rfl rfl) rfl ?_
                    refine y (ev_pick0 rfl rfl) rfl ?_
                    refine ynil' (kthn (hK25 _ _ ?_))
                    clear hK25
                    refine ccond1 rfl ?_
                    refine cseq ?_; intro K27 hK27
                    refine creg ?_
                    refine y (ev_assign rfl) rfl ?_
                    refine ynil' (kthn (hK27 _ _ ?_))
                    clear hK27
                    refine cret (kthr ?_)
                    first
                      | (exfalso; omega; done)
                      | (refine kretv Try.results13 rfl (L1 := R) (by repeat first | exact .refl | exact .nil | exact .z | apply Pk.s | refine Ge.e ?_ | apply Ge.pick | apply Ge.drop) ?_
                         exact ⟨_, ⟨by first | rfl | (exfalso; simp_all; done), rfl⟩, by first | rfl | (exfalso; simp_all; done)⟩)
                  · (try simp only [decide_eq_true_eq, beq_iff_eq, beq_eq_false_iff_ne, decide_eq_decide, decide_eq_false_iff_not, Bool.not_eq_true', Bool.not_eq_false', Bool.not_eq_true, Bool.not_eq_false, Bool.not_not, ne_eq, Option.isNone_some, Option.isSome_some, Option.isNone_none, Option.isSome_none] at h159)
                    refine yg0 rfl rfl rfl rfl ?_
                    refine yg0 rfl rfl rfl rfl ?_
                    refine yg0 rfl rfl rfl rfl ?_
                    refine yg0 rfl rfl rfl rfl ?_
                    refine yg1 rfl rfl ?_
                    refine y (ev_pick0 rfl rfl) rfl ?_
                    refine yg1 rfl rfl ?_
                    refine y (ev_move rfl) rfl ?_
                    refine yg0 rfl rfl rfl rfl ?_
                    refine yg0 rfl rfl rfl rfl ?_
                    refine yg0 rfl rfl rfl rfl ?_
                    refine yg0 rfl rfl rfl rfl ?_
                    refine yg0 rfl rfl rfl rfl ?_
                    refine yg1 rfl rfl ?_
                    refine y (ev_pick0 rfl rfl) rfl ?_
                    refine y (ev_pick0 rfl rfl) rfl ?_
                    refine ynil' (kthn (hK25 _ _ ?_))
                    clear hK25
                    refine ccond0 rfl ?_
                    refine cskip' (kthn (hK24 _ _ ?_))
                    clear hK24
                    refine cseq ?_; intro K28 hK28
                    refine creg ?_
                    refine y (ev_move rfl) rfl ?_
                    refine y (ev_move rfl) rfl ?_
                    refine ysplit 133 rfl (fun h180 => ?_) (fun h180 => ?_)
                    · (try simp only [decide_eq_true_eq, beq_iff_eq, beq_eq_false_iff_ne, decide_eq_decide, decide_eq_false_iff_not, Bool.not_eq_true', Bool.not_eq_false', Bool.not_eq_true, Bool.not_eq_false, Bool.not_not, ne_eq, Option.isNone_some, Option.isSome_some, Option.isNone_none, Option.isSome_none] at h180)
                      refine yg1 rfl rfl ?_
                      refine y (ev_move rfl) rfl ?_
                      refine yg1 rfl rfl ?_
                      refine ycall (cSlots ?ok182 ?ha182 ?hb182) rfl Try.call44 (by repeat first | exact .nil | exact .z | apply Pk.s | apply Tk.cons) rfl ?_
                      case ok182 => exact hU2.ok
                      case ha182 => rw [hU2.has, if_neg (by omega)]
                      case hb182 => rw [hU2.has, if_neg (by omega)]
                      rintro v L' ⟨p135, rfl, rfl⟩
                      refine yg1 rfl rfl ?_
                      refine y (ev_move rfl) rfl ?_
                      refine yg1 rfl rfl ?_
                      refine y (ev_move rfl) rfl ?_
                      refine yg1 rfl rfl ?_
                      refine y (ev_add rfl rfl) rfl ?_
                      rw [wr (by omega) (by omega)]
                      refine yg1 rfl rfl ?_
                      refine y (ev_move rfl) rfl ?_
                      refine yg1 rfl rfl ?_
                      refine ycall (cSlot (gen := g + 1) (s := next) ?lo187 ?hi187) rfl Try.call38 (by repeat first | exact .nil | exact .z | apply Pk.s | apply Tk.cons) rfl ?_
                      case lo187 => omega
                      case hi187 => omega
                      rintro v L' ⟨s140, rfl, ok140, rfl⟩
                      refine yg1 rfl rfl ?_
                      refine ycall (cClash (now := [D2.sec 0, D2.sec 1]) (was := [w0, w1]) (wro := slotM (g + 1) next) ?hn188 ?hw188 ?hl188 ?hr188 ?he188 ?hm188) rfl Try.call45 (by repeat first | exact .nil | exact .z | apply Pk.s | apply Tk.cons) rfl ?_
                      case hn188 => exact rdV_in (by repeat first | exact .z | apply In.s) rfl rfl
                      case hw188 => exact rdV_in (by repeat first | exact .z | apply In.s) rfl rfl
                      case hl188 => rfl
                      case hr188 => exact rdY_sv (by repeat first | exact .z | apply In.s) ok140
                      case he188 => intro b hb; simp at hb; rcases hb with rfl | rfl <;> rw [sec_length hU2.ok] <;> decide
                      case hm188 => exact (by decide : (2 : Nat) ≤ 1000)
                      rintro v L' ⟨rfl, rfl⟩
                      rw [h1]
                      refine y (ev_pick1 rfl rfl) rfl ?_
                      refine y (ev_assign rfl) rfl ?_
                      refine ynil' (kthn (hK28 _ _ ?_))
                      clear hK28
                      refine cret ?_
                      first
                        | (exfalso; omega; done)
                        | (refine kretv Try.results13 rfl (L1 := R) (by repeat first | exact .refl | exact .nil | exact .z | apply Pk.s | refine Ge.e ?_ | apply Ge.pick | apply Ge.drop) ?_
                           exact ⟨_, ⟨by first | rfl | (exfalso; simp_all; done), rfl⟩, by first | rfl | (exfalso; simp_all; done)⟩)
                    · (try simp only [decide_eq_true_eq, beq_iff_eq, beq_eq_false_iff_ne, decide_eq_decide, decide_eq_false_iff_not, Bool.not_eq_true', Bool.not_eq_false', Bool.not_eq_true, Bool.not_eq_false, Bool.not_not, ne_eq, Option.isNone_some, Option.isSome_some, Option.isNone_none, Option.isSome_none] at h180)
                      refine yg0 rfl rfl rfl rfl ?_
                      refine yg0 rfl rfl rfl rfl ?_
                      refine yg0 rfl rfl rfl rfl ?_
                      refine yg0 rfl rfl rfl rfl ?_
                      refine yg0 rfl rfl rfl rfl ?_
                      refine yg0 rfl rfl rfl rfl ?_
                      refine yg0 rfl rfl rfl rfl ?_
                      refine yg0 rfl rfl rfl rfl ?_
                      refine y (ev_pick0 rfl rfl) rfl ?_
                      refine y (ev_assign rfl) rfl ?_
                      refine ynil' (kthn (hK28 _ _ ?_))
                      clear hK28
                      refine cret ?_
                      first
                        | (exfalso; omega; done)
                        | (refine kretv Try.results13 rfl (L1 := R) (by repeat first | exact .refl | exact .nil | exact .z | apply Pk.s | refine Ge.e ?_ | apply Ge.pick | apply Ge.drop) ?_
                           exact ⟨_, ⟨by first | rfl | (exfalso; simp_all; done), rfl⟩, by first | rfl | (exfalso; simp_all; done)⟩)
                · (try simp only [decide_eq_true_eq, beq_iff_eq, beq_eq_false_iff_ne, decide_eq_decide, decide_eq_false_iff_not, Bool.not_eq_true', Bool.not_eq_false', Bool.not_eq_true, Bool.not_eq_false, Bool.not_not, ne_eq, Option.isNone_some, Option.isSome_some, Option.isNone_none, Option.isSome_none] at h150)
                  refine yg0 rfl rfl rfl rfl ?_
                  refine yg0 rfl rfl rfl rfl ?_
                  refine yg0 rfl rfl rfl rfl ?_
                  refine yg0 rfl rfl rfl rfl ?_
                  refine y (ev_pick0 rfl rfl) rfl ?_
                  refine y (ev_move rfl) rfl ?_
                  refine yg1 rfl rfl ?_
                  refine y (ev_move rfl) rfl ?_
                  refine yg1 rfl rfl ?_
                  refine y (ev_move rfl) rfl ?_
                  refine ysplit 118 rfl (fun h197 => ?_) (fun h197 => ?_)
                  · (try simp only [decide_eq_true_eq, beq_iff_eq, beq_eq_false_iff_ne, decide_eq_decide, decide_eq_false_iff_not, Bool.not_eq_true', Bool.not_eq_false', Bool.not_eq_true, Bool.not_eq_false, Bool.not_not, ne_eq, Option.isNone_some, Option.isSome_some, Option.isNone_none, Option.isSome_none] at h197)
                    refine yg1 rfl rfl ?_
                    refine y (ev_move rfl) rfl ?_
                    refine yg1 rfl rfl ?_
                    refine ycall (cGet) rfl Try.call41 (by repeat first | exact .nil | exact .z | apply Pk.s | apply Tk.cons) rfl ?_
                    rintro v L' ⟨rfl, rfl⟩
                    refine yg1 rfl rfl ?_
                    refine y (ev_move rfl) rfl ?_
                    refine yg1 rfl rfl ?_
                    first
                      | refine y (ev_eqlL rfl rfl) rfl ?_
                      | refine y (ev_eqlS rfl rfl) rfl ?_
                    try rw [h1, show decide (next = next) = true by simp]
                    refine yg1 rfl rfl ?_
                    refine y (ev_pick1 rfl rfl) rfl ?_
                    refine yg1 rfl rfl ?_
                    refine y (ev_move rfl) rfl ?_
                    refine yg1 rfl rfl ?_
                    refine y (ev_move rfl) rfl ?_
                    refine yg1 rfl rfl ?_
                    refine ycall (cGen) rfl Try.call42 (by repeat first | exact .nil | exact .z | apply Pk.s | apply Tk.cons) rfl ?_
                    rintro v L' ⟨rfl, rfl⟩
                    refine yg1 rfl rfl ?_
                    refine y (ev_move rfl) rfl ?_
                    refine yg1 rfl rfl ?_
                    refine y (ev_add rfl rfl) rfl ?_
                    rw [wr (by omega) (by omega)]
                    refine yg1 rfl rfl ?_
                    refine y (ev_eql rfl rfl) rfl ?_
                    try rw [h2, show decide (g + 1 = g + 1) = true by simp]
                    refine yg1 rfl rfl ?_
                    refine y (ev_pick1 rfl rfl) rfl ?_
                    refine y (ev_pick0 rfl rfl) rfl ?_
                    refine ynil' (kthn (hK25 _ _ ?_))
                    clear hK25
                    refine ccond1 rfl ?_
                    refine cseq ?_; intro K29 hK29
                    refine creg ?_
                    refine y (ev_assign rfl) rfl ?_
                    refine ynil' (kthn (hK29 _ _ ?_))
                    clear hK29
                    refine cret (kthr ?_)
                    first
                      | (exfalso; omega; done)
                      | (refine kretv Try.results13 rfl (L1 := R) (by repeat first | exact .refl | exact .nil | exact .z | apply Pk.s | refine Ge.e ?_ | apply Ge.pick | apply Ge.drop) ?_
                         exact ⟨_, ⟨by first | rfl | (exfalso; simp_all; done), rfl⟩, by first | rfl | (exfalso; simp_all; done)⟩)
                  · (try simp only [decide_eq_true_eq, beq_iff_eq, beq_eq_false_iff_ne, decide_eq_decide, decide_eq_false_iff_not, Bool.not_eq_true', Bool.not_eq_false', Bool.not_eq_true, Bool.not_eq_false, Bool.not_not, ne_eq, Option.isNone_some, Option.isSome_some, Option.isNone_none, Option.isSome_none] at h197)
                    refine yg0 rfl rfl rfl rfl ?_
                    refine yg0 rfl rfl rfl rfl ?_
                    refine yg0 rfl rfl rfl rfl ?_
                    refine yg0 rfl rfl rfl rfl ?_
                    refine yg1 rfl rfl ?_
                    refine y (ev_pick0 rfl rfl) rfl ?_
                    refine yg1 rfl rfl ?_
                    refine y (ev_move rfl) rfl ?_
                    refine yg0 rfl rfl rfl rfl ?_
                    refine yg0 rfl rfl rfl rfl ?_
                    refine yg0 rfl rfl rfl rfl ?_
                    refine yg0 rfl rfl rfl rfl ?_
                    refine yg0 rfl rfl rfl rfl ?_
                    refine yg1 rfl rfl ?_
                    refine y (ev_pick0 rfl rfl) rfl ?_
                    refine y (ev_pick0 rfl rfl) rfl ?_
                    refine ynil' (kthn (hK25 _ _ ?_))
                    clear hK25
                    refine ccond0 rfl ?_
                    refine cskip' (kthn (hK24 _ _ ?_))
                    clear hK24
                    refine cseq ?_; intro K30 hK30
                    refine creg ?_
                    refine y (ev_move rfl) rfl ?_
                    refine y (ev_move rfl) rfl ?_
                    refine ysplit 133 rfl (fun h218 => ?_) (fun h218 => ?_)
                    · (try simp only [decide_eq_true_eq, beq_iff_eq, beq_eq_false_iff_ne, decide_eq_decide, decide_eq_false_iff_not, Bool.not_eq_true', Bool.not_eq_false', Bool.not_eq_true, Bool.not_eq_false, Bool.not_not, ne_eq, Option.isNone_some, Option.isSome_some, Option.isNone_none, Option.isSome_none] at h218)
                      refine yg1 rfl rfl ?_
                      refine y (ev_move rfl) rfl ?_
                      refine yg1 rfl rfl ?_
                      refine ycall (cSlots ?ok220 ?ha220 ?hb220) rfl Try.call44 (by repeat first | exact .nil | exact .z | apply Pk.s | apply Tk.cons) rfl ?_
                      case ok220 => exact hU2.ok
                      case ha220 => rw [hU2.has, if_neg (by omega)]
                      case hb220 => rw [hU2.has, if_neg (by omega)]
                      rintro v L' ⟨p135, rfl, rfl⟩
                      refine yg1 rfl rfl ?_
                      refine y (ev_move rfl) rfl ?_
                      refine yg1 rfl rfl ?_
                      refine y (ev_move rfl) rfl ?_
                      refine yg1 rfl rfl ?_
                      refine y (ev_add rfl rfl) rfl ?_
                      rw [wr (by omega) (by omega)]
                      refine yg1 rfl rfl ?_
                      refine y (ev_move rfl) rfl ?_
                      refine yg1 rfl rfl ?_
                      refine ycall (cSlot (gen := g + 1) (s := next) ?lo225 ?hi225) rfl Try.call38 (by repeat first | exact .nil | exact .z | apply Pk.s | apply Tk.cons) rfl ?_
                      case lo225 => omega
                      case hi225 => omega
                      rintro v L' ⟨s140, rfl, ok140, rfl⟩
                      refine yg1 rfl rfl ?_
                      refine ycall (cClash (now := [D2.sec 0, D2.sec 1]) (was := [w0, w1]) (wro := slotM (g + 1) next) ?hn226 ?hw226 ?hl226 ?hr226 ?he226 ?hm226) rfl Try.call45 (by repeat first | exact .nil | exact .z | apply Pk.s | apply Tk.cons) rfl ?_
                      case hn226 => exact rdV_in (by repeat first | exact .z | apply In.s) rfl rfl
                      case hw226 => exact rdV_in (by repeat first | exact .z | apply In.s) rfl rfl
                      case hl226 => rfl
                      case hr226 => exact rdY_sv (by repeat first | exact .z | apply In.s) ok140
                      case he226 => intro b hb; simp at hb; rcases hb with rfl | rfl <;> rw [sec_length hU2.ok] <;> decide
                      case hm226 => exact (by decide : (2 : Nat) ≤ 1000)
                      rintro v L' ⟨rfl, rfl⟩
                      rw [h1]
                      refine y (ev_pick1 rfl rfl) rfl ?_
                      refine y (ev_assign rfl) rfl ?_
                      refine ynil' (kthn (hK30 _ _ ?_))
                      clear hK30
                      refine cret ?_
                      first
                        | (exfalso; omega; done)
                        | (refine kretv Try.results13 rfl (L1 := R) (by repeat first | exact .refl | exact .nil | exact .z | apply Pk.s | refine Ge.e ?_ | apply Ge.pick | apply Ge.drop) ?_
                           exact ⟨_, ⟨by first | rfl | (exfalso; simp_all; done), rfl⟩, by first | rfl | (exfalso; simp_all; done)⟩)
                    · (try simp only [decide_eq_true_eq, beq_iff_eq, beq_eq_false_iff_ne, decide_eq_decide, decide_eq_false_iff_not, Bool.not_eq_true', Bool.not_eq_false', Bool.not_eq_true, Bool.not_eq_false, Bool.not_not, ne_eq, Option.isNone_some, Option.isSome_some, Option.isNone_none, Option.isSome_none] at h218)
                      refine yg0 rfl rfl rfl rfl ?_
                      refine yg0 rfl rfl rfl rfl ?_
                      refine yg0 rfl rfl rfl rfl ?_
                      refine yg0 rfl rfl rfl rfl ?_
                      refine yg0 rfl rfl rfl rfl ?_
                      refine yg0 rfl rfl rfl rfl ?_
                      refine yg0 rfl rfl rfl rfl ?_
                      refine yg0 rfl rfl rfl rfl ?_
                      refine y (ev_pick0 rfl rfl) rfl ?_
                      refine y (ev_assign rfl) rfl ?_
                      refine ynil' (kthn (hK30 _ _ ?_))
                      clear hK30
                      refine cret ?_
                      first
                        | (exfalso; omega; done)
                        | (refine kretv Try.results13 rfl (L1 := R) (by repeat first | exact .refl | exact .nil | exact .z | apply Pk.s | refine Ge.e ?_ | apply Ge.pick | apply Ge.drop) ?_
                           exact ⟨_, ⟨by first | rfl | (exfalso; simp_all; done), rfl⟩, by first | rfl | (exfalso; simp_all; done)⟩)
              · skip
                refine y (ev_move rfl) rfl ?_
                refine ycall (cGet) rfl Try.call41 (by repeat first | exact .nil | exact .z | apply Pk.s | apply Tk.cons) rfl ?_
                rintro v L' ⟨rfl, rfl⟩
                refine y (ev_move rfl) rfl ?_
                first
                  | refine y (ev_eqlL rfl rfl) rfl ?_
                  | refine y (ev_eqlS rfl rfl) rfl ?_
                try rw [h1, show decide (last = last) = true by simp]
                refine y (ev_move rfl) rfl ?_
                refine ysplit 110 rfl (fun h236 => ?_) (fun h236 => ?_)
                · (try simp only [decide_eq_true_eq, beq_iff_eq, beq_eq_false_iff_ne, decide_eq_decide, decide_eq_false_iff_not, Bool.not_eq_true', Bool.not_eq_false', Bool.not_eq_true, Bool.not_eq_false, Bool.not_not, ne_eq, Option.isNone_some, Option.isSome_some, Option.isNone_none, Option.isSome_none] at h236)
                  refine yg1 rfl rfl ?_
                  refine y (ev_move rfl) rfl ?_
                  refine yg1 rfl rfl ?_
                  refine ycall (cGen) rfl Try.call42 (by repeat first | exact .nil | exact .z | apply Pk.s | apply Tk.cons) rfl ?_
                  rintro v L' ⟨rfl, rfl⟩
                  refine yg1 rfl rfl ?_
                  refine y (ev_move rfl) rfl ?_
                  refine yg1 rfl rfl ?_
                  refine y (ev_eql rfl rfl) rfl ?_
                  first | rw [h2, show decide (g = g) = true by simp] | rw [show decide ((openC D2 0 1).gen = g) = false by simp; omega] | skip
                  refine y (ev_pick1 rfl rfl) rfl ?_
                  refine y (ev_move rfl) rfl ?_
                  refine ysplit 116 rfl (fun h243 => ?_) (fun h243 => ?_)
                  · (try simp only [decide_eq_true_eq, beq_iff_eq, beq_eq_false_iff_ne, decide_eq_decide, decide_eq_false_iff_not, Bool.not_eq_true', Bool.not_eq_false', Bool.not_eq_true, Bool.not_eq_false, Bool.not_not, ne_eq, Option.isNone_some, Option.isSome_some, Option.isNone_none, Option.isSome_none] at h243)
                    refine yg0 rfl rfl rfl rfl ?_
                    refine yg0 rfl rfl rfl rfl ?_
                    refine yg0u rfl rfl rfl ?_
                    refine yg0u rfl rfl rfl ?_
                    refine yg0u rfl rfl rfl ?_
                    refine yg0u rfl rfl rfl ?_
                    refine yg0 rfl rfl rfl rfl ?_
                    refine yg0 rfl rfl rfl rfl ?_
                    refine yg0u rfl rfl rfl ?_
                    refine yg0u rfl rfl rfl ?_
                    refine yg0u rfl rfl rfl ?_
                    refine yg0u rfl rfl rfl ?_
                    refine yg0u rfl rfl rfl ?_
                    refine yg0 rfl rfl rfl rfl ?_
                    refine y (ev_pick1 rfl rfl) rfl ?_
                    refine ynil' (kthn (hK25 _ _ ?_))
                    clear hK25
                    refine ccond1 rfl ?_
                    refine cseq ?_; intro K31 hK31
                    refine creg ?_
                    refine y (ev_assign rfl) rfl ?_
                    refine ynil' (kthn (hK31 _ _ ?_))
                    clear hK31
                    refine cret (kthr ?_)
                    first
                      | (exfalso; omega; done)
                      | (refine kretv Try.results13 rfl (L1 := R) (by repeat first | exact .refl | exact .nil | exact .z | apply Pk.s | refine Ge.e ?_ | apply Ge.pick | apply Ge.drop) ?_
                         exact ⟨_, ⟨by first | rfl | (exfalso; simp_all; done), rfl⟩, by first | rfl | (exfalso; simp_all; done)⟩)
                  · (try simp only [decide_eq_true_eq, beq_iff_eq, beq_eq_false_iff_ne, decide_eq_decide, decide_eq_false_iff_not, Bool.not_eq_true', Bool.not_eq_false', Bool.not_eq_true, Bool.not_eq_false, Bool.not_not, ne_eq, Option.isNone_some, Option.isSome_some, Option.isNone_none, Option.isSome_none] at h243)
                    refine yg1 rfl rfl ?_
                    refine y (ev_move rfl) rfl ?_
                    refine yg1 rfl rfl ?_
                    refine y (ev_move rfl) rfl ?_
                    refine ysplit 118 rfl (fun h248 => ?_) (fun h248 => ?_)
                    · (try simp only [decide_eq_true_eq, beq_iff_eq, beq_eq_false_iff_ne, decide_eq_decide, decide_eq_false_iff_not, Bool.not_eq_true', Bool.not_eq_false', Bool.not_eq_true, Bool.not_eq_false, Bool.not_not, ne_eq, Option.isNone_some, Option.isSome_some, Option.isNone_none, Option.isSome_none] at h248)
                      refine yg1 rfl rfl ?_
                      refine y (ev_move rfl) rfl ?_
                      refine yg1 rfl rfl ?_
                      refine ycall (cGet) rfl Try.call41 (by repeat first | exact .nil | exact .z | apply Pk.s | apply Tk.cons) rfl ?_
                      rintro v L' ⟨rfl, rfl⟩
                      refine yg1 rfl rfl ?_
                      refine y (ev_move rfl) rfl ?_
                      refine yg1 rfl rfl ?_
                      first
                        | refine y (ev_eqlL rfl rfl) rfl ?_
                        | refine y (ev_eqlS rfl rfl) rfl ?_
                      try rw [h1, show decide (next = next) = true by simp]
                      refine yg1 rfl rfl ?_
                      refine y (ev_pick1 rfl rfl) rfl ?_
                      refine yg1 rfl rfl ?_
                      refine y (ev_move rfl) rfl ?_
                      refine ysplit 124 rfl (fun h255 => ?_) (fun h255 => ?_)
                      · (try simp only [decide_eq_true_eq, beq_iff_eq, beq_eq_false_iff_ne, decide_eq_decide, decide_eq_false_iff_not, Bool.not_eq_true', Bool.not_eq_false', Bool.not_eq_true, Bool.not_eq_false, Bool.not_not, ne_eq, Option.isNone_some, Option.isSome_some, Option.isNone_none, Option.isSome_none] at h255)
                        refine yg1 rfl rfl ?_
                        refine y (ev_move rfl) rfl ?_
                        refine yg1 rfl rfl ?_
                        refine ycall (cGen) rfl Try.call42 (by repeat first | exact .nil | exact .z | apply Pk.s | apply Tk.cons) rfl ?_
                        rintro v L' ⟨rfl, rfl⟩
                        refine yg1 rfl rfl ?_
                        refine y (ev_move rfl) rfl ?_
                        refine yg1 rfl rfl ?_
                        refine y (ev_add rfl rfl) rfl ?_
                        rw [wr (by omega) (by omega)]
                        refine yg1 rfl rfl ?_
                        refine y (ev_eql rfl rfl) rfl ?_
                        try rw [h2, show decide (g + 1 = g + 1) = true by simp]
                        refine yg1 rfl rfl ?_
                        refine y (ev_pick1 rfl rfl) rfl ?_
                        refine y (ev_pick0 rfl rfl) rfl ?_
                        refine ynil' (kthn (hK25 _ _ ?_))
                        clear hK25
                        refine ccond rfl (fun h263 => ?_) (fun h263 => ?_)
                        · (try simp only [decide_eq_true_eq, beq_iff_eq, beq_eq_false_iff_ne, decide_eq_decide, decide_eq_false_iff_not, Bool.not_eq_true', Bool.not_eq_false', Bool.not_eq_true, Bool.not_eq_false, Bool.not_not, ne_eq, Option.isNone_some, Option.isSome_some, Option.isNone_none, Option.isSome_none] at h263)
                          refine cseq ?_; intro K32 hK32
                          refine creg ?_
                          refine y (ev_assign rfl) rfl ?_
                          refine ynil' (kthn (hK32 _ _ ?_))
                          clear hK32
                          refine cret (kthr ?_)
                          first
                            | (exfalso; omega; done)
                            | (refine kretv Try.results13 rfl (L1 := R) (by repeat first | exact .refl | exact .nil | exact .z | apply Pk.s | refine Ge.e ?_ | apply Ge.pick | apply Ge.drop) ?_
                               exact ⟨_, ⟨by first | rfl | (exfalso; simp_all; done), rfl⟩, by first | rfl | (exfalso; simp_all; done)⟩)
                        · (try simp only [decide_eq_true_eq, beq_iff_eq, beq_eq_false_iff_ne, decide_eq_decide, decide_eq_false_iff_not, Bool.not_eq_true', Bool.not_eq_false', Bool.not_eq_true, Bool.not_eq_false, Bool.not_not, ne_eq, Option.isNone_some, Option.isSome_some, Option.isNone_none, Option.isSome_none] at h263)
                          refine cskip' (kthn (hK24 _ _ ?_))
                          clear hK24
                          refine cseq ?_; intro K33 hK33
                          refine creg ?_
                          refine y (ev_move rfl) rfl ?_
                          refine y (ev_move rfl) rfl ?_
                          refine ysplit 133 rfl (fun h267 => ?_) (fun h267 => ?_)
                          · (try simp only [decide_eq_true_eq, beq_iff_eq, beq_eq_false_iff_ne, decide_eq_decide, decide_eq_false_iff_not, Bool.not_eq_true', Bool.not_eq_false', Bool.not_eq_true, Bool.not_eq_false, Bool.not_not, ne_eq, Option.isNone_some, Option.isSome_some, Option.isNone_none, Option.isSome_none] at h267)
                            refine yg1 rfl rfl ?_
                            refine y (ev_move rfl) rfl ?_
                            refine yg1 rfl rfl ?_
                            refine ycall (cSlots ?ok269 ?ha269 ?hb269) rfl Try.call44 (by repeat first | exact .nil | exact .z | apply Pk.s | apply Tk.cons) rfl ?_
                            case ok269 => exact hU2.ok
                            case ha269 => rw [hU2.has, if_neg (by omega)]
                            case hb269 => rw [hU2.has, if_neg (by omega)]
                            rintro v L' ⟨p135, rfl, rfl⟩
                            refine yg1 rfl rfl ?_
                            refine y (ev_move rfl) rfl ?_
                            refine yg1 rfl rfl ?_
                            refine y (ev_move rfl) rfl ?_
                            refine yg1 rfl rfl ?_
                            refine y (ev_add rfl rfl) rfl ?_
                            rw [wr (by omega) (by omega)]
                            refine yg1 rfl rfl ?_
                            refine y (ev_move rfl) rfl ?_
                            refine yg1 rfl rfl ?_
                            refine ycall (cSlot (gen := g + 1) (s := next) ?lo274 ?hi274) rfl Try.call38 (by repeat first | exact .nil | exact .z | apply Pk.s | apply Tk.cons) rfl ?_
                            case lo274 => omega
                            case hi274 => omega
                            rintro v L' ⟨s140, rfl, ok140, rfl⟩
                            refine yg1 rfl rfl ?_
                            refine ycall (cClash (now := [D2.sec 0, D2.sec 1]) (was := [w0, w1]) (wro := slotM (g + 1) next) ?hn275 ?hw275 ?hl275 ?hr275 ?he275 ?hm275) rfl Try.call45 (by repeat first | exact .nil | exact .z | apply Pk.s | apply Tk.cons) rfl ?_
                            case hn275 => exact rdV_in (by repeat first | exact .z | apply In.s) rfl rfl
                            case hw275 => exact rdV_in (by repeat first | exact .z | apply In.s) rfl rfl
                            case hl275 => rfl
                            case hr275 => exact rdY_sv (by repeat first | exact .z | apply In.s) ok140
                            case he275 => intro b hb; simp at hb; rcases hb with rfl | rfl <;> rw [sec_length hU2.ok] <;> decide
                            case hm275 => exact (by decide : (2 : Nat) ≤ 1000)
                            rintro v L' ⟨rfl, rfl⟩
                            rw [h1]
                            refine y (ev_pick1 rfl rfl) rfl ?_
                            refine y (ev_assign rfl) rfl ?_
                            refine ynil' (kthn (hK33 _ _ ?_))
                            clear hK33
                            refine cret ?_
                            first
                              | (exfalso; omega; done)
                              | (refine kretv Try.results13 rfl (L1 := R) (by repeat first | exact .refl | exact .nil | exact .z | apply Pk.s | refine Ge.e ?_ | apply Ge.pick | apply Ge.drop) ?_
                                 exact ⟨_, ⟨by first | rfl | (exfalso; simp_all; done), rfl⟩, by first | rfl | (exfalso; simp_all; done)⟩)
                          · (try simp only [decide_eq_true_eq, beq_iff_eq, beq_eq_false_iff_ne, decide_eq_decide, decide_eq_false_iff_not, Bool.not_eq_true', Bool.not_eq_false', Bool.not_eq_true, Bool.not_eq_false, Bool.not_not, ne_eq, Option.isNone_some, Option.isSome_some, Option.isNone_none, Option.isSome_none] at h267)
                            refine yg0 rfl rfl rfl rfl ?_
                            refine yg0 rfl rfl rfl rfl ?_
                            refine yg0 rfl rfl rfl rfl ?_
                            refine yg0 rfl rfl rfl rfl ?_
                            refine yg0 rfl rfl rfl rfl ?_
                            refine yg0 rfl rfl rfl rfl ?_
                            refine yg0 rfl rfl rfl rfl ?_
                            refine yg0 rfl rfl rfl rfl ?_
                            refine y (ev_pick0 rfl rfl) rfl ?_
                            refine y (ev_assign rfl) rfl ?_
                            refine ynil' (kthn (hK33 _ _ ?_))
                            clear hK33
                            refine cret ?_
                            first
                              | (exfalso; omega; done)
                              | (refine kretv Try.results13 rfl (L1 := R) (by repeat first | exact .refl | exact .nil | exact .z | apply Pk.s | refine Ge.e ?_ | apply Ge.pick | apply Ge.drop) ?_
                                 exact ⟨_, ⟨by first | rfl | (exfalso; simp_all; done), rfl⟩, by first | rfl | (exfalso; simp_all; done)⟩)
                      · (try simp only [decide_eq_true_eq, beq_iff_eq, beq_eq_false_iff_ne, decide_eq_decide, decide_eq_false_iff_not, Bool.not_eq_true', Bool.not_eq_false', Bool.not_eq_true, Bool.not_eq_false, Bool.not_not, ne_eq, Option.isNone_some, Option.isSome_some, Option.isNone_none, Option.isSome_none] at h255)
                        refine yg0 rfl rfl rfl rfl ?_
                        refine yg0 rfl rfl rfl rfl ?_
                        refine yg0 rfl rfl rfl rfl ?_
                        refine yg0 rfl rfl rfl rfl ?_
                        refine yg0 rfl rfl rfl rfl ?_
                        refine yg1 rfl rfl ?_
                        refine y (ev_pick0 rfl rfl) rfl ?_
                        refine y (ev_pick0 rfl rfl) rfl ?_
                        refine ynil' (kthn (hK25 _ _ ?_))
                        clear hK25
                        refine ccond0 rfl ?_
                        refine cskip' (kthn (hK24 _ _ ?_))
                        clear hK24
                        refine cseq ?_; intro K34 hK34
                        refine creg ?_
                        refine y (ev_move rfl) rfl ?_
                        refine y (ev_move rfl) rfl ?_
                        refine ysplit 133 rfl (fun h284 => ?_) (fun h284 => ?_)
                        · (try simp only [decide_eq_true_eq, beq_iff_eq, beq_eq_false_iff_ne, decide_eq_decide, decide_eq_false_iff_not, Bool.not_eq_true', Bool.not_eq_false', Bool.not_eq_true, Bool.not_eq_false, Bool.not_not, ne_eq, Option.isNone_some, Option.isSome_some, Option.isNone_none, Option.isSome_none] at h284)
                          refine yg1 rfl rfl ?_
                          refine y (ev_move rfl) rfl ?_
                          refine yg1 rfl rfl ?_
                          refine ycall (cSlots ?ok286 ?ha286 ?hb286) rfl Try.call44 (by repeat first | exact .nil | exact .z | apply Pk.s | apply Tk.cons) rfl ?_
                          case ok286 => exact hU2.ok
                          case ha286 => rw [hU2.has, if_neg (by omega)]
                          case hb286 => rw [hU2.has, if_neg (by omega)]
                          rintro v L' ⟨p135, rfl, rfl⟩
                          refine yg1 rfl rfl ?_
                          refine y (ev_move rfl) rfl ?_
                          refine yg1 rfl rfl ?_
                          refine y (ev_move rfl) rfl ?_
                          refine yg1 rfl rfl ?_
                          refine y (ev_add rfl rfl) rfl ?_
                          rw [wr (by omega) (by omega)]
                          refine yg1 rfl rfl ?_
                          refine y (ev_move rfl) rfl ?_
                          refine yg1 rfl rfl ?_
                          refine ycall (cSlot (gen := g + 1) (s := next) ?lo291 ?hi291) rfl Try.call38 (by repeat first | exact .nil | exact .z | apply Pk.s | apply Tk.cons) rfl ?_
                          case lo291 => omega
                          case hi291 => omega
                          rintro v L' ⟨s140, rfl, ok140, rfl⟩
                          refine yg1 rfl rfl ?_
                          refine ycall (cClash (now := [D2.sec 0, D2.sec 1]) (was := [w0, w1]) (wro := slotM (g + 1) next) ?hn292 ?hw292 ?hl292 ?hr292 ?he292 ?hm292) rfl Try.call45 (by repeat first | exact .nil | exact .z | apply Pk.s | apply Tk.cons) rfl ?_
                          case hn292 => exact rdV_in (by repeat first | exact .z | apply In.s) rfl rfl
                          case hw292 => exact rdV_in (by repeat first | exact .z | apply In.s) rfl rfl
                          case hl292 => rfl
                          case hr292 => exact rdY_sv (by repeat first | exact .z | apply In.s) ok140
                          case he292 => intro b hb; simp at hb; rcases hb with rfl | rfl <;> rw [sec_length hU2.ok] <;> decide
                          case hm292 => exact (by decide : (2 : Nat) ≤ 1000)
                          rintro v L' ⟨rfl, rfl⟩
                          rw [h1]
                          refine y (ev_pick1 rfl rfl) rfl ?_
                          refine y (ev_assign rfl) rfl ?_
                          refine ynil' (kthn (hK34 _ _ ?_))
                          clear hK34
                          refine cret ?_
                          first
                            | (exfalso; omega; done)
                            | (refine kretv Try.results13 rfl (L1 := R) (by repeat first | exact .refl | exact .nil | exact .z | apply Pk.s | refine Ge.e ?_ | apply Ge.pick | apply Ge.drop) ?_
                               exact ⟨_, ⟨by first | rfl | (exfalso; simp_all; done), rfl⟩, by first | rfl | (exfalso; simp_all; done)⟩)
                        · (try simp only [decide_eq_true_eq, beq_iff_eq, beq_eq_false_iff_ne, decide_eq_decide, decide_eq_false_iff_not, Bool.not_eq_true', Bool.not_eq_false', Bool.not_eq_true, Bool.not_eq_false, Bool.not_not, ne_eq, Option.isNone_some, Option.isSome_some, Option.isNone_none, Option.isSome_none] at h284)
                          refine yg0 rfl rfl rfl rfl ?_
                          refine yg0 rfl rfl rfl rfl ?_
                          refine yg0 rfl rfl rfl rfl ?_
                          refine yg0 rfl rfl rfl rfl ?_
                          refine yg0 rfl rfl rfl rfl ?_
                          refine yg0 rfl rfl rfl rfl ?_
                          refine yg0 rfl rfl rfl rfl ?_
                          refine yg0 rfl rfl rfl rfl ?_
                          refine y (ev_pick0 rfl rfl) rfl ?_
                          refine y (ev_assign rfl) rfl ?_
                          refine ynil' (kthn (hK34 _ _ ?_))
                          clear hK34
                          refine cret ?_
                          first
                            | (exfalso; omega; done)
                            | (refine kretv Try.results13 rfl (L1 := R) (by repeat first | exact .refl | exact .nil | exact .z | apply Pk.s | refine Ge.e ?_ | apply Ge.pick | apply Ge.drop) ?_
                               exact ⟨_, ⟨by first | rfl | (exfalso; simp_all; done), rfl⟩, by first | rfl | (exfalso; simp_all; done)⟩)
                    · (try simp only [decide_eq_true_eq, beq_iff_eq, beq_eq_false_iff_ne, decide_eq_decide, decide_eq_false_iff_not, Bool.not_eq_true', Bool.not_eq_false', Bool.not_eq_true, Bool.not_eq_false, Bool.not_not, ne_eq, Option.isNone_some, Option.isSome_some, Option.isNone_none, Option.isSome_none] at h248)
                      refine yg0 rfl rfl rfl rfl ?_
                      refine yg0 rfl rfl rfl rfl ?_
                      refine yg0 rfl rfl rfl rfl ?_
                      refine yg0 rfl rfl rfl rfl ?_
                      refine yg1 rfl rfl ?_
                      refine y (ev_pick0 rfl rfl) rfl ?_
                      refine yg1 rfl rfl ?_
                      refine y (ev_move rfl) rfl ?_
                      refine yg0 rfl rfl rfl rfl ?_
                      refine yg0 rfl rfl rfl rfl ?_
                      refine yg0 rfl rfl rfl rfl ?_
                      refine yg0 rfl rfl rfl rfl ?_
                      refine yg0 rfl rfl rfl rfl ?_
                      refine yg1 rfl rfl ?_
                      refine y (ev_pick0 rfl rfl) rfl ?_
                      refine y (ev_pick0 rfl rfl) rfl ?_
                      refine ynil' (kthn (hK25 _ _ ?_))
                      clear hK25
                      refine ccond0 rfl ?_
                      refine cskip' (kthn (hK24 _ _ ?_))
                      clear hK24
                      refine cseq ?_; intro K35 hK35
                      refine creg ?_
                      refine y (ev_move rfl) rfl ?_
                      refine y (ev_move rfl) rfl ?_
                      refine ysplit 133 rfl (fun h303 => ?_) (fun h303 => ?_)
                      · (try simp only [decide_eq_true_eq, beq_iff_eq, beq_eq_false_iff_ne, decide_eq_decide, decide_eq_false_iff_not, Bool.not_eq_true', Bool.not_eq_false', Bool.not_eq_true, Bool.not_eq_false, Bool.not_not, ne_eq, Option.isNone_some, Option.isSome_some, Option.isNone_none, Option.isSome_none] at h303)
                        refine yg1 rfl rfl ?_
                        refine y (ev_move rfl) rfl ?_
                        refine yg1 rfl rfl ?_
                        refine ycall (cSlots ?ok305 ?ha305 ?hb305) rfl Try.call44 (by repeat first | exact .nil | exact .z | apply Pk.s | apply Tk.cons) rfl ?_
                        case ok305 => exact hU2.ok
                        case ha305 => rw [hU2.has, if_neg (by omega)]
                        case hb305 => rw [hU2.has, if_neg (by omega)]
                        rintro v L' ⟨p135, rfl, rfl⟩
                        refine yg1 rfl rfl ?_
                        refine y (ev_move rfl) rfl ?_
                        refine yg1 rfl rfl ?_
                        refine y (ev_move rfl) rfl ?_
                        refine yg1 rfl rfl ?_
                        refine y (ev_add rfl rfl) rfl ?_
                        rw [wr (by omega) (by omega)]
                        refine yg1 rfl rfl ?_
                        refine y (ev_move rfl) rfl ?_
                        refine yg1 rfl rfl ?_
                        refine ycall (cSlot (gen := g + 1) (s := next) ?lo310 ?hi310) rfl Try.call38 (by repeat first | exact .nil | exact .z | apply Pk.s | apply Tk.cons) rfl ?_
                        case lo310 => omega
                        case hi310 => omega
                        rintro v L' ⟨s140, rfl, ok140, rfl⟩
                        refine yg1 rfl rfl ?_
                        refine ycall (cClash (now := [D2.sec 0, D2.sec 1]) (was := [w0, w1]) (wro := slotM (g + 1) next) ?hn311 ?hw311 ?hl311 ?hr311 ?he311 ?hm311) rfl Try.call45 (by repeat first | exact .nil | exact .z | apply Pk.s | apply Tk.cons) rfl ?_
                        case hn311 => exact rdV_in (by repeat first | exact .z | apply In.s) rfl rfl
                        case hw311 => exact rdV_in (by repeat first | exact .z | apply In.s) rfl rfl
                        case hl311 => rfl
                        case hr311 => exact rdY_sv (by repeat first | exact .z | apply In.s) ok140
                        case he311 => intro b hb; simp at hb; rcases hb with rfl | rfl <;> rw [sec_length hU2.ok] <;> decide
                        case hm311 => exact (by decide : (2 : Nat) ≤ 1000)
                        rintro v L' ⟨rfl, rfl⟩
                        rw [h1]
                        refine y (ev_pick1 rfl rfl) rfl ?_
                        refine y (ev_assign rfl) rfl ?_
                        refine ynil' (kthn (hK35 _ _ ?_))
                        clear hK35
                        refine cret ?_
                        first
                          | (exfalso; omega; done)
                          | (refine kretv Try.results13 rfl (L1 := R) (by repeat first | exact .refl | exact .nil | exact .z | apply Pk.s | refine Ge.e ?_ | apply Ge.pick | apply Ge.drop) ?_
                             exact ⟨_, ⟨by first | rfl | (exfalso; simp_all; done), rfl⟩, by first | rfl | (exfalso; simp_all; done)⟩)
                      · (try simp only [decide_eq_true_eq, beq_iff_eq, beq_eq_false_iff_ne, decide_eq_decide, decide_eq_false_iff_not, Bool.not_eq_true', Bool.not_eq_false', Bool.not_eq_true, Bool.not_eq_false, Bool.not_not, ne_eq, Option.isNone_some, Option.isSome_some, Option.isNone_none, Option.isSome_none] at h303)
                        refine yg0 rfl rfl rfl rfl ?_
                        refine yg0 rfl rfl rfl rfl ?_
                        refine yg0 rfl rfl rfl rfl ?_
                        refine yg0 rfl rfl rfl rfl ?_
                        refine yg0 rfl rfl rfl rfl ?_
                        refine yg0 rfl rfl rfl rfl ?_
                        refine yg0 rfl rfl rfl rfl ?_
                        refine yg0 rfl rfl rfl rfl ?_
                        refine y (ev_pick0 rfl rfl) rfl ?_
                        refine y (ev_assign rfl) rfl ?_
                        refine ynil' (kthn (hK35 _ _ ?_))
                        clear hK35
                        refine cret ?_
                        first
                          | (exfalso; omega; done)
                          | (refine kretv Try.results13 rfl (L1 := R) (by repeat first | exact .refl | exact .nil | exact .z | apply Pk.s | refine Ge.e ?_ | apply Ge.pick | apply Ge.drop) ?_
                             exact ⟨_, ⟨by first | rfl | (exfalso; simp_all; done), rfl⟩, by first | rfl | (exfalso; simp_all; done)⟩)
                · (try simp only [decide_eq_true_eq, beq_iff_eq, beq_eq_false_iff_ne, decide_eq_decide, decide_eq_false_iff_not, Bool.not_eq_true', Bool.not_eq_false', Bool.not_eq_true, Bool.not_eq_false, Bool.not_not, ne_eq, Option.isNone_some, Option.isSome_some, Option.isNone_none, Option.isSome_none] at h236)
                  refine yg0 rfl rfl rfl rfl ?_
                  refine yg0 rfl rfl rfl rfl ?_
                  refine yg0 rfl rfl rfl rfl ?_
                  refine yg0 rfl rfl rfl rfl ?_
                  refine y (ev_pick0 rfl rfl) rfl ?_
                  refine y (ev_move rfl) rfl ?_
                  refine yg1 rfl rfl ?_
                  refine y (ev_move rfl) rfl ?_
                  refine yg1 rfl rfl ?_
                  refine y (ev_move rfl) rfl ?_
                  refine ysplit 118 rfl (fun h320 => ?_) (fun h320 => ?_)
                  · (try simp only [decide_eq_true_eq, beq_iff_eq, beq_eq_false_iff_ne, decide_eq_decide, decide_eq_false_iff_not, Bool.not_eq_true', Bool.not_eq_false', Bool.not_eq_true, Bool.not_eq_false, Bool.not_not, ne_eq, Option.isNone_some, Option.isSome_some, Option.isNone_none, Option.isSome_none] at h320)
                    refine yg1 rfl rfl ?_
                    refine y (ev_move rfl) rfl ?_
                    refine yg1 rfl rfl ?_
                    refine ycall (cGet) rfl Try.call41 (by repeat first | exact .nil | exact .z | apply Pk.s | apply Tk.cons) rfl ?_
                    rintro v L' ⟨rfl, rfl⟩
                    refine yg1 rfl rfl ?_
                    refine y (ev_move rfl) rfl ?_
                    refine yg1 rfl rfl ?_
                    first
                      | refine y (ev_eqlL rfl rfl) rfl ?_
                      | refine y (ev_eqlS rfl rfl) rfl ?_
                    try rw [h1, show decide (next = next) = true by simp]
                    refine yg1 rfl rfl ?_
                    refine y (ev_pick1 rfl rfl) rfl ?_
                    refine yg1 rfl rfl ?_
                    refine y (ev_move rfl) rfl ?_
                    refine ysplit 124 rfl (fun h327 => ?_) (fun h327 => ?_)
                    · (try simp only [decide_eq_true_eq, beq_iff_eq, beq_eq_false_iff_ne, decide_eq_decide, decide_eq_false_iff_not, Bool.not_eq_true', Bool.not_eq_false', Bool.not_eq_true, Bool.not_eq_false, Bool.not_not, ne_eq, Option.isNone_some, Option.isSome_some, Option.isNone_none, Option.isSome_none] at h327)
                      refine yg1 rfl rfl ?_
                      refine y (ev_move rfl) rfl ?_
                      refine yg1 rfl rfl ?_
                      refine ycall (cGen) rfl Try.call42 (by repeat first | exact .nil | exact .z | apply Pk.s | apply Tk.cons) rfl ?_
                      rintro v L' ⟨rfl, rfl⟩
                      refine yg1 rfl rfl ?_
                      refine y (ev_move rfl) rfl ?_
                      refine yg1 rfl rfl ?_
                      refine y (ev_add rfl rfl) rfl ?_
                      rw [wr (by omega) (by omega)]
                      refine yg1 rfl rfl ?_
                      refine y (ev_eql rfl rfl) rfl ?_
                      try rw [h2, show decide (g + 1 = g + 1) = true by simp]
                      refine yg1 rfl rfl ?_
                      refine y (ev_pick1 rfl rfl) rfl ?_
                      refine y (ev_pick0 rfl rfl) rfl ?_
                      refine ynil' (kthn (hK25 _ _ ?_))
                      clear hK25
                      refine ccond rfl (fun h335 => ?_) (fun h335 => ?_)
                      · (try simp only [decide_eq_true_eq, beq_iff_eq, beq_eq_false_iff_ne, decide_eq_decide, decide_eq_false_iff_not, Bool.not_eq_true', Bool.not_eq_false', Bool.not_eq_true, Bool.not_eq_false, Bool.not_not, ne_eq, Option.isNone_some, Option.isSome_some, Option.isNone_none, Option.isSome_none] at h335)
                        refine cseq ?_; intro K36 hK36
                        refine creg ?_
                        refine y (ev_assign rfl) rfl ?_
                        refine ynil' (kthn (hK36 _ _ ?_))
                        clear hK36
                        refine cret (kthr ?_)
                        first
                          | (exfalso; omega; done)
                          | (refine kretv Try.results13 rfl (L1 := R) (by repeat first | exact .refl | exact .nil | exact .z | apply Pk.s | refine Ge.e ?_ | apply Ge.pick | apply Ge.drop) ?_
                             exact ⟨_, ⟨by first | rfl | (exfalso; simp_all; done), rfl⟩, by first | rfl | (exfalso; simp_all; done)⟩)
                      · (try simp only [decide_eq_true_eq, beq_iff_eq, beq_eq_false_iff_ne, decide_eq_decide, decide_eq_false_iff_not, Bool.not_eq_true', Bool.not_eq_false', Bool.not_eq_true, Bool.not_eq_false, Bool.not_not, ne_eq, Option.isNone_some, Option.isSome_some, Option.isNone_none, Option.isSome_none] at h335)
                        refine cskip' (kthn (hK24 _ _ ?_))
                        clear hK24
                        refine cseq ?_; intro K37 hK37
                        refine creg ?_
                        refine y (ev_move rfl) rfl ?_
                        refine y (ev_move rfl) rfl ?_
                        refine ysplit 133 rfl (fun h339 => ?_) (fun h339 => ?_)
                        · (try simp only [decide_eq_true_eq, beq_iff_eq, beq_eq_false_iff_ne, decide_eq_decide, decide_eq_false_iff_not, Bool.not_eq_true', Bool.not_eq_false', Bool.not_eq_true, Bool.not_eq_false, Bool.not_not, ne_eq, Option.isNone_some, Option.isSome_some, Option.isNone_none, Option.isSome_none] at h339)
                          refine yg1 rfl rfl ?_
                          refine y (ev_move rfl) rfl ?_
                          refine yg1 rfl rfl ?_
                          refine ycall (cSlots ?ok341 ?ha341 ?hb341) rfl Try.call44 (by repeat first | exact .nil | exact .z | apply Pk.s | apply Tk.cons) rfl ?_
                          case ok341 => exact hU2.ok
                          case ha341 => rw [hU2.has, if_neg (by omega)]
                          case hb341 => rw [hU2.has, if_neg (by omega)]
                          rintro v L' ⟨p135, rfl, rfl⟩
                          refine yg1 rfl rfl ?_
                          refine y (ev_move rfl) rfl ?_
                          refine yg1 rfl rfl ?_
                          refine y (ev_move rfl) rfl ?_
                          refine yg1 rfl rfl ?_
                          refine y (ev_add rfl rfl) rfl ?_
                          rw [wr (by omega) (by omega)]
                          refine yg1 rfl rfl ?_
                          refine y (ev_move rfl) rfl ?_
                          refine yg1 rfl rfl ?_
                          refine ycall (cSlot (gen := g + 1) (s := next) ?lo346 ?hi346) rfl Try.call38 (by repeat first | exact .nil | exact .z | apply Pk.s | apply Tk.cons) rfl ?_
                          case lo346 => omega
                          case hi346 => omega
                          rintro v L' ⟨s140, rfl, ok140, rfl⟩
                          refine yg1 rfl rfl ?_
                          refine ycall (cClash (now := [D2.sec 0, D2.sec 1]) (was := [w0, w1]) (wro := slotM (g + 1) next) ?hn347 ?hw347 ?hl347 ?hr347 ?he347 ?hm347) rfl Try.call45 (by repeat first | exact .nil | exact .z | apply Pk.s | apply Tk.cons) rfl ?_
                          case hn347 => exact rdV_in (by repeat first | exact .z | apply In.s) rfl rfl
                          case hw347 => exact rdV_in (by repeat first | exact .z | apply In.s) rfl rfl
                          case hl347 => rfl
                          case hr347 => exact rdY_sv (by repeat first | exact .z | apply In.s) ok140
                          case he347 => intro b hb; simp at hb; rcases hb with rfl | rfl <;> rw [sec_length hU2.ok] <;> decide
                          case hm347 => exact (by decide : (2 : Nat) ≤ 1000)
                          rintro v L' ⟨rfl, rfl⟩
                          rw [h1]
                          refine y (ev_pick1 rfl rfl) rfl ?_
                          refine y (ev_assign rfl) rfl ?_
                          refine ynil' (kthn (hK37 _ _ ?_))
                          clear hK37
                          refine cret ?_
                          first
                            | (exfalso; omega; done)
                            | (refine kretv Try.results13 rfl (L1 := R) (by repeat first | exact .refl | exact .nil | exact .z | apply Pk.s | refine Ge.e ?_ | apply Ge.pick | apply Ge.drop) ?_
                               exact ⟨_, ⟨by first | rfl | (exfalso; simp_all; done), rfl⟩, by first | rfl | (exfalso; simp_all; done)⟩)
                        · (try simp only [decide_eq_true_eq, beq_iff_eq, beq_eq_false_iff_ne, decide_eq_decide, decide_eq_false_iff_not, Bool.not_eq_true', Bool.not_eq_false', Bool.not_eq_true, Bool.not_eq_false, Bool.not_not, ne_eq, Option.isNone_some, Option.isSome_some, Option.isNone_none, Option.isSome_none] at h339)
                          refine yg0 rfl rfl rfl rfl ?_
                          refine yg0 rfl rfl rfl rfl ?_
                          refine yg0 rfl rfl rfl rfl ?_
                          refine yg0 rfl rfl rfl rfl ?_
                          refine yg0 rfl rfl rfl rfl ?_
                          refine yg0 rfl rfl rfl rfl ?_
                          refine yg0 rfl rfl rfl rfl ?_
                          refine yg0 rfl rfl rfl rfl ?_
                          refine y (ev_pick0 rfl rfl) rfl ?_
                          refine y (ev_assign rfl) rfl ?_
                          refine ynil' (kthn (hK37 _ _ ?_))
                          clear hK37
                          refine cret ?_
                          first
                            | (exfalso; omega; done)
                            | (refine kretv Try.results13 rfl (L1 := R) (by repeat first | exact .refl | exact .nil | exact .z | apply Pk.s | refine Ge.e ?_ | apply Ge.pick | apply Ge.drop) ?_
                               exact ⟨_, ⟨by first | rfl | (exfalso; simp_all; done), rfl⟩, by first | rfl | (exfalso; simp_all; done)⟩)
                    · (try simp only [decide_eq_true_eq, beq_iff_eq, beq_eq_false_iff_ne, decide_eq_decide, decide_eq_false_iff_not, Bool.not_eq_true', Bool.not_eq_false', Bool.not_eq_true, Bool.not_eq_false, Bool.not_not, ne_eq, Option.isNone_some, Option.isSome_some, Option.isNone_none, Option.isSome_none] at h327)
                      refine yg0 rfl rfl rfl rfl ?_
                      refine yg0 rfl rfl rfl rfl ?_
                      refine yg0 rfl rfl rfl rfl ?_
                      refine yg0 rfl rfl rfl rfl ?_
                      refine yg0 rfl rfl rfl rfl ?_
                      refine yg1 rfl rfl ?_
                      refine y (ev_pick0 rfl rfl) rfl ?_
                      refine y (ev_pick0 rfl rfl) rfl ?_
                      refine ynil' (kthn (hK25 _ _ ?_))
                      clear hK25
                      refine ccond0 rfl ?_
                      refine cskip' (kthn (hK24 _ _ ?_))
                      clear hK24
                      refine cseq ?_; intro K38 hK38
                      refine creg ?_
                      refine y (ev_move rfl) rfl ?_
                      refine y (ev_move rfl) rfl ?_
                      refine ysplit 133 rfl (fun h356 => ?_) (fun h356 => ?_)
                      · (try simp only [decide_eq_true_eq, beq_iff_eq, beq_eq_false_iff_ne, decide_eq_decide, decide_eq_false_iff_not, Bool.not_eq_true', Bool.not_eq_false', Bool.not_eq_true, Bool.not_eq_false, Bool.not_not, ne_eq, Option.isNone_some, Option.isSome_some, Option.isNone_none, Option.isSome_none] at h356)
                        refine yg1 rfl rfl ?_
                        refine y (ev_move rfl) rfl ?_
                        refine yg1 rfl rfl ?_
                        refine ycall (cSlots ?ok358 ?ha358 ?hb358) rfl Try.call44 (by repeat first | exact .nil | exact .z | apply Pk.s | apply Tk.cons) rfl ?_
                        case ok358 => exact hU2.ok
                        case ha358 => rw [hU2.has, if_neg (by omega)]
                        case hb358 => rw [hU2.has, if_neg (by omega)]
                        rintro v L' ⟨p135, rfl, rfl⟩
                        refine yg1 rfl rfl ?_
                        refine y (ev_move rfl) rfl ?_
                        refine yg1 rfl rfl ?_
                        refine y (ev_move rfl) rfl ?_
                        refine yg1 rfl rfl ?_
                        refine y (ev_add rfl rfl) rfl ?_
                        rw [wr (by omega) (by omega)]
                        refine yg1 rfl rfl ?_
                        refine y (ev_move rfl) rfl ?_
                        refine yg1 rfl rfl ?_
                        refine ycall (cSlot (gen := g + 1) (s := next) ?lo363 ?hi363) rfl Try.call38 (by repeat first | exact .nil | exact .z | apply Pk.s | apply Tk.cons) rfl ?_
                        case lo363 => omega
                        case hi363 => omega
                        rintro v L' ⟨s140, rfl, ok140, rfl⟩
                        refine yg1 rfl rfl ?_
                        refine ycall (cClash (now := [D2.sec 0, D2.sec 1]) (was := [w0, w1]) (wro := slotM (g + 1) next) ?hn364 ?hw364 ?hl364 ?hr364 ?he364 ?hm364) rfl Try.call45 (by repeat first | exact .nil | exact .z | apply Pk.s | apply Tk.cons) rfl ?_
                        case hn364 => exact rdV_in (by repeat first | exact .z | apply In.s) rfl rfl
                        case hw364 => exact rdV_in (by repeat first | exact .z | apply In.s) rfl rfl
                        case hl364 => rfl
                        case hr364 => exact rdY_sv (by repeat first | exact .z | apply In.s) ok140
                        case he364 => intro b hb; simp at hb; rcases hb with rfl | rfl <;> rw [sec_length hU2.ok] <;> decide
                        case hm364 => exact (by decide : (2 : Nat) ≤ 1000)
                        rintro v L' ⟨rfl, rfl⟩
                        rw [h1]
                        refine y (ev_pick1 rfl rfl) rfl ?_
                        refine y (ev_assign rfl) rfl ?_
                        refine ynil' (kthn (hK38 _ _ ?_))
                        clear hK38
                        refine cret ?_
                        first
                          | (exfalso; omega; done)
                          | (refine kretv Try.results13 rfl (L1 := R) (by repeat first | exact .refl | exact .nil | exact .z | apply Pk.s | refine Ge.e ?_ | apply Ge.pick | apply Ge.drop) ?_
                             exact ⟨_, ⟨by first | rfl | (exfalso; simp_all; done), rfl⟩, by first | rfl | (exfalso; simp_all; done)⟩)
                      · (try simp only [decide_eq_true_eq, beq_iff_eq, beq_eq_false_iff_ne, decide_eq_decide, decide_eq_false_iff_not, Bool.not_eq_true', Bool.not_eq_false', Bool.not_eq_true, Bool.not_eq_false, Bool.not_not, ne_eq, Option.isNone_some, Option.isSome_some, Option.isNone_none, Option.isSome_none] at h356)
                        refine yg0 rfl rfl rfl rfl ?_
                        refine yg0 rfl rfl rfl rfl ?_
                        refine yg0 rfl rfl rfl rfl ?_
                        refine yg0 rfl rfl rfl rfl ?_
                        refine yg0 rfl rfl rfl rfl ?_
                        refine yg0 rfl rfl rfl rfl ?_
                        refine yg0 rfl rfl rfl rfl ?_
                        refine yg0 rfl rfl rfl rfl ?_
                        refine y (ev_pick0 rfl rfl) rfl ?_
                        refine y (ev_assign rfl) rfl ?_
                        refine ynil' (kthn (hK38 _ _ ?_))
                        clear hK38
                        refine cret ?_
                        first
                          | (exfalso; omega; done)
                          | (refine kretv Try.results13 rfl (L1 := R) (by repeat first | exact .refl | exact .nil | exact .z | apply Pk.s | refine Ge.e ?_ | apply Ge.pick | apply Ge.drop) ?_
                             exact ⟨_, ⟨by first | rfl | (exfalso; simp_all; done), rfl⟩, by first | rfl | (exfalso; simp_all; done)⟩)
                  · (try simp only [decide_eq_true_eq, beq_iff_eq, beq_eq_false_iff_ne, decide_eq_decide, decide_eq_false_iff_not, Bool.not_eq_true', Bool.not_eq_false', Bool.not_eq_true, Bool.not_eq_false, Bool.not_not, ne_eq, Option.isNone_some, Option.isSome_some, Option.isNone_none, Option.isSome_none] at h320)
                    refine yg0 rfl rfl rfl rfl ?_
                    refine yg0 rfl rfl rfl rfl ?_
                    refine yg0 rfl rfl rfl rfl ?_
                    refine yg0 rfl rfl rfl rfl ?_
                    refine yg1 rfl rfl ?_
                    refine y (ev_pick0 rfl rfl) rfl ?_
                    refine yg1 rfl rfl ?_
                    refine y (ev_move rfl) rfl ?_
                    refine yg0 rfl rfl rfl rfl ?_
                    refine yg0 rfl rfl rfl rfl ?_
                    refine yg0 rfl rfl rfl rfl ?_
                    refine yg0 rfl rfl rfl rfl ?_
                    refine yg0 rfl rfl rfl rfl ?_
                    refine yg1 rfl rfl ?_
                    refine y (ev_pick0 rfl rfl) rfl ?_
                    refine y (ev_pick0 rfl rfl) rfl ?_
                    refine ynil' (kthn (hK25 _ _ ?_))
                    clear hK25
                    refine ccond0 rfl ?_
                    refine cskip' (kthn (hK24 _ _ ?_))
                    clear hK24
                    refine cseq ?_; intro K39 hK39
                    refine creg ?_
                    refine y (ev_move rfl) rfl ?_
                    refine y (ev_move rfl) rfl ?_
                    refine ysplit 133 rfl (fun h375 => ?_) (fun h375 => ?_)
                    · (try simp only [decide_eq_true_eq, beq_iff_eq, beq_eq_false_iff_ne, decide_eq_decide, decide_eq_false_iff_not, Bool.not_eq_true', Bool.not_eq_false', Bool.not_eq_true, Bool.not_eq_false, Bool.not_not, ne_eq, Option.isNone_some, Option.isSome_some, Option.isNone_none, Option.isSome_none] at h375)
                      refine yg1 rfl rfl ?_
                      refine y (ev_move rfl) rfl ?_
                      refine yg1 rfl rfl ?_
                      refine ycall (cSlots ?ok377 ?ha377 ?hb377) rfl Try.call44 (by repeat first | exact .nil | exact .z | apply Pk.s | apply Tk.cons) rfl ?_
                      case ok377 => exact hU2.ok
                      case ha377 => rw [hU2.has, if_neg (by omega)]
                      case hb377 => rw [hU2.has, if_neg (by omega)]
                      rintro v L' ⟨p135, rfl, rfl⟩
                      refine yg1 rfl rfl ?_
                      refine y (ev_move rfl) rfl ?_
                      refine yg1 rfl rfl ?_
                      refine y (ev_move rfl) rfl ?_
                      refine yg1 rfl rfl ?_
                      refine y (ev_add rfl rfl) rfl ?_
                      rw [wr (by omega) (by omega)]
                      refine yg1 rfl rfl ?_
                      refine y (ev_move rfl) rfl ?_
                      refine yg1 rfl rfl ?_
                      refine ycall (cSlot (gen := g + 1) (s := next) ?lo382 ?hi382) rfl Try.call38 (by repeat first | exact .nil | exact .z | apply Pk.s | apply Tk.cons) rfl ?_
                      case lo382 => omega
                      case hi382 => omega
                      rintro v L' ⟨s140, rfl, ok140, rfl⟩
                      refine yg1 rfl rfl ?_
                      refine ycall (cClash (now := [D2.sec 0, D2.sec 1]) (was := [w0, w1]) (wro := slotM (g + 1) next) ?hn383 ?hw383 ?hl383 ?hr383 ?he383 ?hm383) rfl Try.call45 (by repeat first | exact .nil | exact .z | apply Pk.s | apply Tk.cons) rfl ?_
                      case hn383 => exact rdV_in (by repeat first | exact .z | apply In.s) rfl rfl
                      case hw383 => exact rdV_in (by repeat first | exact .z | apply In.s) rfl rfl
                      case hl383 => rfl
                      case hr383 => exact rdY_sv (by repeat first | exact .z | apply In.s) ok140
                      case he383 => intro b hb; simp at hb; rcases hb with rfl | rfl <;> rw [sec_length hU2.ok] <;> decide
                      case hm383 => exact (by decide : (2 : Nat) ≤ 1000)
                      rintro v L' ⟨rfl, rfl⟩
                      rw [h1]
                      refine y (ev_pick1 rfl rfl) rfl ?_
                      refine y (ev_assign rfl) rfl ?_
                      refine ynil' (kthn (hK39 _ _ ?_))
                      clear hK39
                      refine cret ?_
                      first
                        | (exfalso; omega; done)
                        | (refine kretv Try.results13 rfl (L1 := R) (by repeat first | exact .refl | exact .nil | exact .z | apply Pk.s | refine Ge.e ?_ | apply Ge.pick | apply Ge.drop) ?_
                           exact ⟨_, ⟨by first | rfl | (exfalso; simp_all; done), rfl⟩, by first | rfl | (exfalso; simp_all; done)⟩)
                    · (try simp only [decide_eq_true_eq, beq_iff_eq, beq_eq_false_iff_ne, decide_eq_decide, decide_eq_false_iff_not, Bool.not_eq_true', Bool.not_eq_false', Bool.not_eq_true, Bool.not_eq_false, Bool.not_not, ne_eq, Option.isNone_some, Option.isSome_some, Option.isNone_none, Option.isSome_none] at h375)
                      refine yg0 rfl rfl rfl rfl ?_
                      refine yg0 rfl rfl rfl rfl ?_
                      refine yg0 rfl rfl rfl rfl ?_
                      refine yg0 rfl rfl rfl rfl ?_
                      refine yg0 rfl rfl rfl rfl ?_
                      refine yg0 rfl rfl rfl rfl ?_
                      refine yg0 rfl rfl rfl rfl ?_
                      refine yg0 rfl rfl rfl rfl ?_
                      refine y (ev_pick0 rfl rfl) rfl ?_
                      refine y (ev_assign rfl) rfl ?_
                      refine ynil' (kthn (hK39 _ _ ?_))
                      clear hK39
                      refine cret ?_
                      first
                        | (exfalso; omega; done)
                        | (refine kretv Try.results13 rfl (L1 := R) (by repeat first | exact .refl | exact .nil | exact .z | apply Pk.s | refine Ge.e ?_ | apply Ge.pick | apply Ge.drop) ?_
                           exact ⟨_, ⟨by first | rfl | (exfalso; simp_all; done), rfl⟩, by first | rfl | (exfalso; simp_all; done)⟩)
          clear hK18
          refine cblock ?_
          refine cloop (A := Nat × Dev × CellM × Bytes × Int × Nat × Bytes × Bytes × Bool × Bytes) (fun x => [(15, i64 x.1), (14, .slice (some ⟨x.2.2.2.2.2.1, 0, none⟩) 2 2), (13, .bool x.2.2.2.2.2.2.2.2.1), (12, str x.2.2.2.2.2.2.2.2.2), (11, i64 x.2.2.2.2.1), (10, str x.2.2.2.1), (8, ptr c0), (7, dp q20), (0, lv), (2, kv)]) (fun x => [celP c0 q20 x.2.2.1, dev q20 x.2.1, sc x.2.2.2.2.2.1 [str x.2.2.2.2.2.2.1, str x.2.2.2.2.2.2.2.1] 9] ++ R) (fun x => KeepI x.2.1 x.2.2.1 x.2.2.2.1 x.2.2.2.2.1 x.2.2.2.2.2.2.1 x.2.2.2.2.2.2.2.1 x.2.2.2.2.2.2.2.2.2 x.2.2.2.2.2.2.2.2.1 ∧ 0 ≤ x.2.2.2.2.1 ∧ x.2.2.2.2.1 ≤ x.1 ∧ x.1 ≤ ts.length ∧ x.1 ≤ 60) (fun x => ts.length - x.1) ((0, DF, CellM.init 0 1, [], 0, p45, DF.sec 0, DF.sec 1, false, [])) ?_ (by repeat first | exact sub_nil | refine sub_cons rfl ?_ | refine sub_cons' rfl (by simp) ?_) (by repeat first | exact .refl | exact .nil | exact .z | apply Pk.s | refine Ge.e ?_ | apply Ge.pick | apply Ge.drop) ?_
          · exact ⟨.whole hw1, Int.le_refl _, Int.le_refl _, Nat.zero_le _, Nat.zero_le _⟩
          rintro ⟨k, D, C, last, g, p, w0, w1, under, next⟩ hI1 KL1 hL1
          have hI1o := hI1
          obtain ⟨hki, hg0, hgk, hk1, hk2⟩ := hI1; dsimp only at hki hg0 hgk hk1 hk2 ⊢
          refine cseq ?_; intro K40 hK40
          refine cseq ?_; intro K41 hK41
          refine creg ?_
          refine y (ev_move rfl) rfl ?_
          refine y (ev_move rfl) rfl ?_
          first
            | refine y (ev_len rfl Try.underlying57) rfl ?_
            | refine y (ev_lenSv rfl Try.underlying57 (by assumption)) rfl ?_
            | refine y (ev_lenV rfl Try.underlying57 (RdV.lenVal (by assumption))) rfl ?_
            | refine y (ev_lenV rfl Try.underlying57 (RdB.lenVal (by assumption))) rfl ?_
          refine y (ev_lss rfl rfl) rfl ?_
          refine y (ev_move rfl) rfl ?_
          refine ysplit 50 rfl (fun h393 => ?_) (fun h393 => ?_)
          · (try simp only [decide_eq_true_eq, beq_iff_eq, beq_eq_false_iff_ne, decide_eq_decide, decide_eq_false_iff_not, Bool.not_eq_true', Bool.not_eq_false', Bool.not_eq_true, Bool.not_eq_false, Bool.not_not, ne_eq, Option.isNone_some, Option.isSome_some, Option.isNone_none, Option.isSome_none] at h393)
            refine yg1 rfl rfl ?_
            refine y (ev_move rfl) rfl ?_
            refine yg1 rfl rfl ?_
            refine y (ev_lss rfl rfl) rfl ?_
            refine y (ev_pick1 rfl rfl) rfl ?_
            refine y (ev_move rfl) rfl ?_
            refine ysplit 54 rfl (fun h398 => ?_) (fun h398 => ?_)
            · (try simp only [decide_eq_true_eq, beq_iff_eq, beq_eq_false_iff_ne, decide_eq_decide, decide_eq_false_iff_not, Bool.not_eq_true', Bool.not_eq_false', Bool.not_eq_true, Bool.not_eq_false, Bool.not_not, ne_eq, Option.isNone_some, Option.isSome_some, Option.isNone_none, Option.isSome_none] at h398)
              refine yg1 rfl rfl ?_
              refine y (ev_move rfl) rfl ?_
              refine yg1 rfl rfl ?_
              refine y (ev_not rfl) rfl ?_
              refine y (ev_pick1 rfl rfl) rfl ?_
              refine ynil' (kthn (hK41 _ _ ?_))
              clear hK41
              refine ccond rfl (fun h402 => ?_) (fun h402 => ?_)
              · (try simp only [decide_eq_true_eq, beq_iff_eq, beq_eq_false_iff_ne, decide_eq_decide, decide_eq_false_iff_not, Bool.not_eq_true', Bool.not_eq_false', Bool.not_eq_true, Bool.not_eq_false, Bool.not_not, ne_eq, Option.isNone_some, Option.isSome_some, Option.isNone_none, Option.isSome_none] at h402)
                have hw := hki.whole_of h402
                obtain ⟨s, hs⟩ : ∃ s, ts[k]? = some s := ⟨_, List.getElem?_eq_getElem (by omega)⟩
                have hC := hw.cok
                have hgen := hw.gen
                refine cskip' (kthn (hK40 _ _ ?_))
                clear hK40
                refine cseq ?_; intro K42 hK42
                refine cblock ?_
                refine cseq ?_; intro K43 hK43
                refine cseq ?_; intro K44 hK44
                refine creg ?_
                refine y (ev_move rfl) rfl ?_
                refine y (ev_move rfl) rfl ?_
                refine y (ev_ixV hl rfl rfl Try.underlying57 Try.sizeOf9 (by omega) (by omega)) rfl ?_
                refine y (ev_loadV k hl (by repeat first | exact .refl | exact .nil | exact .z | apply Pk.s | refine Ge.e ?_ | apply Ge.pick | apply Ge.drop) rfl Try.isAgg9 (by simp) (strsV_get hs)) rfl ?_
                first
                  | refine y (ev_lenStr rfl Try.underlying9) rfl ?_
                  | refine y (ev_lenS rfl Try.underlying9) rfl ?_
                refine y (ev_gtr rfl rfl) rfl ?_
                refine ynil' (kthn (hK44 _ _ ?_))
                clear hK44
                refine ccond rfl (fun h409 => ?_) (fun h409 => ?_)
                · (try simp only [decide_eq_true_eq, beq_iff_eq, beq_eq_false_iff_ne, decide_eq_decide, decide_eq_false_iff_not, Bool.not_eq_true', Bool.not_eq_false', Bool.not_eq_true, Bool.not_eq_false, Bool.not_not, ne_eq, Option.isNone_some, Option.isSome_some, Option.isNone_none, Option.isSome_none] at h409)
                  refine cseq ?_; intro K45 hK45
                  refine cseq ?_; intro K46 hK46
                  refine creg ?_
                  refine y (ev_move rfl) rfl ?_
                  refine y (ev_move rfl) rfl ?_
                  refine y (ev_move rfl) rfl ?_
                  refine y (ev_ixV hl rfl rfl Try.underlying57 Try.sizeOf9 (by omega) (by omega)) rfl ?_
                  refine y (ev_loadV k hl (by repeat first | exact .refl | exact .nil | exact .z | apply Pk.s | refine Ge.e ?_ | apply Ge.pick | apply Ge.drop) rfl Try.isAgg9 (by simp) (strsV_get hs)) rfl ?_
                  refine ycall (cPutLong hw.live hC (by omega)) rfl Try.call43 (by repeat first | exact .nil | exact .z | apply Pk.s | apply Tk.cons) rfl ?_
                  rintro v L' ⟨rfl, rfl⟩
                  skip
                  · skip
                    refine y (ev_neq rfl rfl) rfl ?_
                    refine ynil' (kthn (hK46 _ _ ?_))
                    clear hK46
                    refine ccond0 rfl ?_
                    refine cskip' (kthn (hK45 _ _ ?_))
                    clear hK45
                    refine cexit (kthx (kbx (kthn (hK42 _ _ ?_))))
                    clear hK42
                    refine creg ?_
                    refine y (ev_move rfl) rfl ?_
                    refine y (ev_add rfl rfl) rfl ?_
                    rw [show IntKind.i64.wrap ((k:Int) + 1) = ((k+1 : Nat) : Int) by rw [wr (by omega) (by omega)]; rfl]
                    refine y (ev_assign rfl) rfl ?_
                    refine ynil' (kthn ?_)
                    first
                      | exact hL1 (k + 1, D', C.next s, s, g + 1, p74, D.sec 0, D.sec 1, under, next) ⟨by have hu : under = false := (by assumption); subst hu; exact .whole hwn, by dsimp only; omega, by dsimp only; omega, by dsimp only; omega, by dsimp only; omega⟩ (by dsimp only; omega) _ _ (by repeat first | exact sub_nil | refine sub_cons rfl ?_ | refine sub_cons' rfl (by simp) ?_) (by repeat first | exact .refl | exact .nil | exact .z | apply Pk.s | refine Ge.e ?_ | apply Ge.pick | apply Ge.drop)
                      | exact hL1 (k + 1, D', C, last, g, p74, D.sec 0, D.sec 1, true, s) ⟨.half hhf, by dsimp only; omega, by dsimp only; omega, by dsimp only; omega, by dsimp only; omega⟩ (by dsimp only; omega) _ _ (by repeat first | exact sub_nil | refine sub_cons rfl ?_ | refine sub_cons' rfl (by simp) ?_) (by repeat first | exact .refl | exact .nil | exact .z | apply Pk.s | refine Ge.e ?_ | apply Ge.pick | apply Ge.drop)
                      | exact hL1 (k + 1, D, C, last, g, p, w0, w1, under, next) ⟨hki, by dsimp only; omega, by dsimp only; omega, by dsimp only; omega, by dsimp only; omega⟩ (by dsimp only; omega) _ _ (by repeat first | exact sub_nil | refine sub_cons rfl ?_ | refine sub_cons' rfl (by simp) ?_) (by repeat first | exact .refl | exact .nil | exact .z | apply Pk.s | refine Ge.e ?_ | apply Ge.pick | apply Ge.drop)
                · (try simp only [decide_eq_true_eq, beq_iff_eq, beq_eq_false_iff_ne, decide_eq_decide, decide_eq_false_iff_not, Bool.not_eq_true', Bool.not_eq_false', Bool.not_eq_true, Bool.not_eq_false, Bool.not_not, ne_eq, Option.isNone_some, Option.isSome_some, Option.isNone_none, Option.isSome_none] at h409)
                  have hs100 : s.length ≤ 100 := by omega
                  refine cskip' (kthn (hK43 _ _ ?_))
                  clear hK43
                  refine cseq ?_; intro K47 hK47
                  refine creg ?_
                  refine y (ev_move rfl) rfl ?_
                  refine ycall (cSlots ?ok421 ?ha421 ?hb421) rfl Try.call44 (by repeat first | exact .nil | exact .z | apply Pk.s | apply Tk.cons) rfl ?_
                  case ok421 => exact hw.live.ok
                  case ha421 => exact hw.live.has (by decide) (by decide)
                  case hb421 => exact hw.live.has (by decide) (by decide)
                  rintro v L' ⟨p74, rfl, rfl⟩
                  refine y (ev_assign rfl) rfl ?_
                  refine ynil' (kthn (hK47 _ _ ?_))
                  clear hK47
                  refine cseq ?_; intro K48 hK48
                  refine cseq ?_; intro K49 hK49
                  refine creg ?_
                  refine y (ev_move rfl) rfl ?_
                  refine y (ev_move rfl) rfl ?_
                  refine y (ev_move rfl) rfl ?_
                  refine y (ev_ixV hl rfl rfl Try.underlying57 Try.sizeOf9 (by omega) (by omega)) rfl ?_
                  refine y (ev_loadV k hl (by repeat first | exact .refl | exact .nil | exact .z | apply Pk.s | refine Ge.e ?_ | apply Ge.pick | apply Ge.drop) rfl Try.isAgg9 (by simp) (strsV_get hs)) rfl ?_
                  refine ycall (cPutRes hw.live hC hs100 (by omega)) rfl Try.call43 (by repeat first | exact .nil | exact .z | apply Pk.s | apply Tk.cons) rfl ?_
                  rintro v L' ⟨r, rfl, hpr, rfl⟩
                  refine y (ev_eql rfl rfl) rfl ?_
                  refine ynil' (kthn (hK49 _ _ ?_))
                  clear hK49
                  refine ccond rfl (fun h430 => ?_) (fun h430 => ?_)
                  · (try simp only [decide_eq_true_eq, beq_iff_eq, beq_eq_false_iff_ne, decide_eq_decide, decide_eq_false_iff_not, Bool.not_eq_true', Bool.not_eq_false', Bool.not_eq_true, Bool.not_eq_false, Bool.not_not, ne_eq, Option.isNone_some, Option.isSome_some, Option.isNone_none, Option.isSome_none] at h430)
                    obtain ⟨D', rfl, hL', ho', hs'⟩ := putRes_zero hpr h430
                    have hwn := whole_next hw hs100 (by omega) hL' ho' hs'
                    refine cseq ?_; intro K50 hK50
                    refine creg ?_
                    refine y (ev_move rfl) rfl ?_
                    refine y (ev_move rfl) rfl ?_
                    refine y (ev_ixV hl rfl rfl Try.underlying57 Try.sizeOf9 (by omega) (by omega)) rfl ?_
                    refine y (ev_loadV k hl (by repeat first | exact .refl | exact .nil | exact .z | apply Pk.s | refine Ge.e ?_ | apply Ge.pick | apply Ge.drop) rfl Try.isAgg9 (by simp) (strsV_get hs)) rfl ?_
                    refine y (ev_assign rfl) rfl ?_
                    refine ynil' (kthn (hK50 _ _ ?_))
                    clear hK50
                    refine cseq ?_; intro K51 hK51
                    refine creg ?_
                    refine y (ev_move rfl) rfl ?_
                    refine y (ev_add rfl rfl) rfl ?_
                    rw [wr (by omega) (by omega)]
                    refine y (ev_assign rfl) rfl ?_
                    refine ynil' (kthn (hK51 _ _ ?_))
                    clear hK51
                    refine cexit (kthx (kbx (kthn (hK42 _ _ ?_))))
                    clear hK42
                    refine creg ?_
                    refine y (ev_move rfl) rfl ?_
                    refine y (ev_add rfl rfl) rfl ?_
                    rw [show IntKind.i64.wrap ((k:Int) + 1) = ((k+1 : Nat) : Int) by rw [wr (by omega) (by omega)]; rfl]
                    refine y (ev_assign rfl) rfl ?_
                    refine ynil' (kthn ?_)
                    first
                      | exact hL1 (k + 1, D', C.next s, s, g + 1, p74, D.sec 0, D.sec 1, under, next) ⟨by have hu : under = false := (by assumption); subst hu; exact .whole hwn, by dsimp only; omega, by dsimp only; omega, by dsimp only; omega, by dsimp only; omega⟩ (by dsimp only; omega) _ _ (by repeat first | exact sub_nil | refine sub_cons rfl ?_ | refine sub_cons' rfl (by simp) ?_) (by repeat first | exact .refl | exact .nil | exact .z | apply Pk.s | refine Ge.e ?_ | apply Ge.pick | apply Ge.drop)
                      | exact hL1 (k + 1, D', C, last, g, p74, D.sec 0, D.sec 1, true, s) ⟨.half hhf, by dsimp only; omega, by dsimp only; omega, by dsimp only; omega, by dsimp only; omega⟩ (by dsimp only; omega) _ _ (by repeat first | exact sub_nil | refine sub_cons rfl ?_ | refine sub_cons' rfl (by simp) ?_) (by repeat first | exact .refl | exact .nil | exact .z | apply Pk.s | refine Ge.e ?_ | apply Ge.pick | apply Ge.drop)
                      | exact hL1 (k + 1, D, C, last, g, p, w0, w1, under, next) ⟨hki, by dsimp only; omega, by dsimp only; omega, by dsimp only; omega, by dsimp only; omega⟩ (by dsimp only; omega) _ _ (by repeat first | exact sub_nil | refine sub_cons rfl ?_ | refine sub_cons' rfl (by simp) ?_) (by repeat first | exact .refl | exact .nil | exact .z | apply Pk.s | refine Ge.e ?_ | apply Ge.pick | apply Ge.drop)
                  · (try simp only [decide_eq_true_eq, beq_iff_eq, beq_eq_false_iff_ne, decide_eq_decide, decide_eq_false_iff_not, Bool.not_eq_true', Bool.not_eq_false', Bool.not_eq_true, Bool.not_eq_false, Bool.not_not, ne_eq, Option.isNone_some, Option.isSome_some, Option.isNone_none, Option.isSome_none] at h430)
                    obtain ⟨D', rfl, hD', hl', he'⟩ := putRes_fail hpr h430
                    have hhf := half_of hw hs100 (by omega) hD' hl' he'
                    refine cskip' (kthn (hK48 _ _ ?_))
                    clear hK48
                    refine cseq ?_; intro K52 hK52
                    refine creg ?_
                    refine y (ev_assign rfl) rfl ?_
                    refine ynil' (kthn (hK52 _ _ ?_))
                    clear hK52
                    refine creg ?_
                    refine y (ev_move rfl) rfl ?_
                    refine y (ev_move rfl) rfl ?_
                    refine y (ev_ixV hl rfl rfl Try.underlying57 Try.sizeOf9 (by omega) (by omega)) rfl ?_
                    refine y (ev_loadV k hl (by repeat first | exact .refl | exact .nil | exact .z | apply Pk.s | refine Ge.e ?_ | apply Ge.pick | apply Ge.drop) rfl Try.isAgg9 (by simp) (strsV_get hs)) rfl ?_
                    refine y (ev_assign rfl) rfl ?_
                    refine ynil' (kbn (kthn (hK42 _ _ ?_)))
                    clear hK42
                    refine creg ?_
                    refine y (ev_move rfl) rfl ?_
                    refine y (ev_add rfl rfl) rfl ?_
                    rw [show IntKind.i64.wrap ((k:Int) + 1) = ((k+1 : Nat) : Int) by rw [wr (by omega) (by omega)]; rfl]
                    refine y (ev_assign rfl) rfl ?_
                    refine ynil' (kthn ?_)
                    first
                      | exact hL1 (k + 1, D', C.next s, s, g + 1, p74, D.sec 0, D.sec 1, under, next) ⟨by have hu : under = false := (by assumption); subst hu; exact .whole hwn, by dsimp only; omega, by dsimp only; omega, by dsimp only; omega, by dsimp only; omega⟩ (by dsimp only; omega) _ _ (by repeat first | exact sub_nil | refine sub_cons rfl ?_ | refine sub_cons' rfl (by simp) ?_) (by repeat first | exact .refl | exact .nil | exact .z | apply Pk.s | refine Ge.e ?_ | apply Ge.pick | apply Ge.drop)
                      | exact hL1 (k + 1, D', C, last, g, p74, D.sec 0, D.sec 1, true, s) ⟨.half hhf, by dsimp only; omega, by dsimp only; omega, by dsimp only; omega, by dsimp only; omega⟩ (by dsimp only; omega) _ _ (by repeat first | exact sub_nil | refine sub_cons rfl ?_ | refine sub_cons' rfl (by simp) ?_) (by repeat first | exact .refl | exact .nil | exact .z | apply Pk.s | refine Ge.e ?_ | apply Ge.pick | apply Ge.drop)
                      | exact hL1 (k + 1, D, C, last, g, p, w0, w1, under, next) ⟨hki, by dsimp only; omega, by dsimp only; omega, by dsimp only; omega, by dsimp only; omega⟩ (by dsimp only; omega) _ _ (by repeat first | exact sub_nil | refine sub_cons rfl ?_ | refine sub_cons' rfl (by simp) ?_) (by repeat first | exact .refl | exact .nil | exact .z | apply Pk.s | refine Ge.e ?_ | apply Ge.pick | apply Ge.drop)
              · (try simp only [decide_eq_true_eq, beq_iff_eq, beq_eq_false_iff_ne, decide_eq_decide, decide_eq_false_iff_not, Bool.not_eq_true', Bool.not_eq_false', Bool.not_eq_true, Bool.not_eq_false, Bool.not_not, ne_eq, Option.isNone_some, Option.isSome_some, Option.isNone_none, Option.isSome_none] at h402)
                refine cexit (kthx (kthx (kbx (kthn ?_))))
                exact ksub (by repeat first | exact sub_nil | refine sub_cons rfl ?_ | refine sub_cons' rfl (by simp) ?_) (by repeat first | exact .refl | exact .nil | exact .z | apply Pk.s | refine Ge.e ?_ | apply Ge.pick | apply Ge.drop) (hJ1 ⟨k, D, C, last, g, p, w0, w1, under, next⟩ ⟨hI1o, by first | trivial | omega⟩)
            · (try simp only [decide_eq_true_eq, beq_iff_eq, beq_eq_false_iff_ne, decide_eq_decide, decide_eq_false_iff_not, Bool.not_eq_true', Bool.not_eq_false', Bool.not_eq_true, Bool.not_eq_false, Bool.not_not, ne_eq, Option.isNone_some, Option.isSome_some, Option.isNone_none, Option.isSome_none] at h398)
              refine yg0 rfl rfl rfl rfl ?_
              refine yg0 rfl rfl rfl rfl ?_
              refine y (ev_pick0 rfl rfl) rfl ?_
              refine ynil' (kthn (hK41 _ _ ?_))
              clear hK41
              refine ccond0 rfl ?_
              refine cexit (kthx (kthx (kbx (kthn ?_))))
              exact ksub (by repeat first | exact sub_nil | refine sub_cons rfl ?_ | refine sub_cons' rfl (by simp) ?_) (by repeat first | exact .refl | exact .nil | exact .z | apply Pk.s | refine Ge.e ?_ | apply Ge.pick | apply Ge.drop) (hJ1 ⟨k, D, C, last, g, p, w0, w1, under, next⟩ ⟨hI1o, by first | trivial | omega⟩)
          · (try simp only [decide_eq_true_eq, beq_iff_eq, beq_eq_false_iff_ne, decide_eq_decide, decide_eq_false_iff_not, Bool.not_eq_true', Bool.not_eq_false', Bool.not_eq_true, Bool.not_eq_false, Bool.not_not, ne_eq, Option.isNone_some, Option.isSome_some, Option.isNone_none, Option.isSome_none] at h393)
            refine yg0 rfl rfl rfl rfl ?_
            refine yg0 rfl rfl rfl rfl ?_
            refine y (ev_pick0 rfl rfl) rfl ?_
            refine y (ev_move rfl) rfl ?_
            refine yg0 rfl rfl rfl rfl ?_
            refine yg0 rfl rfl rfl rfl ?_
            refine y (ev_pick0 rfl rfl) rfl ?_
            refine ynil' (kthn (hK41 _ _ ?_))
            clear hK41
            refine ccond0 rfl ?_
            refine cexit (kthx (kthx (kbx (kthn ?_))))
            exact ksub (by repeat first | exact sub_nil | refine sub_cons rfl ?_ | refine sub_cons' rfl (by simp) ?_) (by repeat first | exact .refl | exact .nil | exact .z | apply Pk.s | refine Ge.e ?_ | apply Ge.pick | apply Ge.drop) (hJ1 ⟨k, D, C, last, g, p, w0, w1, under, next⟩ ⟨hI1o, by first | trivial | omega⟩)
end W
end Go.Proofs
