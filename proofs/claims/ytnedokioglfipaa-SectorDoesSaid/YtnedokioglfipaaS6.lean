/- A part of the proof: contracts and plain lemmas, each without conditions beyond those that it names. -/
import Derived.Test.YtnedokioglfipaaS5
import Derived.Test.YtnedokioglfipaaSecB
set_option linter.unusedVariables false
set_option linter.unusedSimpArgs false
set_option linter.constructorNameAsVariable false
namespace Go.Proofs
open Go Go.Sl
namespace W
set_option linter.unusedVariables false
theorem large [Env] {R : List Seg} {a : ActM} (ha : a.ok R) : Con Try.prog 21 [.agg a.cells.toArray] [] R (Is (.bool a.large) []) := by
  have hb := ha.bytes
  have hk := ha.keeps
  refine con_enter Try.func21 Try.ntmps21 rfl rfl ?_
  refine cseq ?_; intro K1 hK1
  refine creg ?_
  refine ya (ac_box rfl rfl) rfl ?_
  rintro v L' ⟨b1, rfl, rfl⟩
  refine y (ev_assign rfl) rfl ?_
  refine ynil' (kthn (hK1 _ _ ?_))
  clear hK1
  refine cseq ?_; intro K2 hK2
  refine creg ?_
  refine y (ev_fieldAddr 2 rfl Try.underlying30 rfl Try.sizeOf27) rfl ?_
  refine y (ev_load rfl Try.isAgg27 (by repeat first | exact .z | apply In.s) rfl) rfl ?_
  first
    | refine y (ev_len rfl Try.underlying27) rfl ?_
    | refine y (ev_lenSv rfl Try.underlying27 (by assumption)) rfl ?_
    | refine y (ev_lenV rfl Try.underlying27 (RdV.lenVal (by assumption))) rfl ?_
    | refine y (ev_lenV rfl Try.underlying27 (RdB.lenVal (by assumption))) rfl ?_
  refine y (ev_gtr rfl rfl) rfl ?_
  refine y (ev_move rfl) rfl ?_
  refine ysplit 7 rfl (fun h8 => ?_) (fun h8 => ?_)
  · (try simp only [decide_eq_true_eq, beq_iff_eq, beq_eq_false_iff_ne, decide_eq_decide, decide_eq_false_iff_not, Bool.not_eq_true', Bool.not_eq_false', Bool.not_eq_true, Bool.not_eq_false, Bool.not_not, ne_eq, Option.isNone_some, Option.isSome_some, Option.isNone_none, Option.isSome_none] at h8)
    refine yg0 rfl rfl rfl rfl ?_
    refine yg0 rfl rfl rfl rfl ?_
    refine yg0 rfl rfl rfl rfl ?_
    refine yg0 rfl rfl rfl rfl ?_
    refine y (ev_pick1 rfl rfl) rfl ?_
    refine y (ev_assign rfl) rfl ?_
    refine ynil' (kthn (hK2 _ _ ?_))
    clear hK2
    refine cret ?_
    first
      | (exfalso; omega; done)
      | (refine kretv Try.results21 rfl (L1 := R) (by repeat first | exact .refl | exact .nil | exact .z | apply Pk.s | refine Ge.e ?_ | apply Ge.pick | apply Ge.drop) ?_
         exact ⟨_, ⟨by simp [ActM.large, *], rfl⟩, by simp [ActM.large, *]⟩)
  · (try simp only [decide_eq_true_eq, beq_iff_eq, beq_eq_false_iff_ne, decide_eq_decide, decide_eq_false_iff_not, Bool.not_eq_true', Bool.not_eq_false', Bool.not_eq_true, Bool.not_eq_false, Bool.not_not, ne_eq, Option.isNone_some, Option.isSome_some, Option.isNone_none, Option.isSome_none] at h8)
    refine yg1 rfl rfl ?_
    refine y (ev_fieldAddr 3 rfl Try.underlying30 rfl Try.sizeOf28) rfl ?_
    refine yg1 rfl rfl ?_
    refine y (ev_load rfl Try.isAgg28 (by repeat first | exact .z | apply In.s) rfl) rfl ?_
    refine yg1 rfl rfl ?_
    first
      | refine y (ev_len rfl Try.underlying28) rfl ?_
      | refine y (ev_lenSv rfl Try.underlying28 (by assumption)) rfl ?_
      | refine y (ev_lenV rfl Try.underlying28 (RdV.lenVal (by assumption))) rfl ?_
      | refine y (ev_lenV rfl Try.underlying28 (RdB.lenVal (by assumption))) rfl ?_
    refine yg1 rfl rfl ?_
    refine y (ev_gtr rfl rfl) rfl ?_
    refine y (ev_pick0 rfl rfl) rfl ?_
    refine y (ev_assign rfl) rfl ?_
    refine ynil' (kthn (hK2 _ _ ?_))
    clear hK2
    refine cret ?_
    first
      | (exfalso; omega; done)
      | (refine kretv Try.results21 rfl (L1 := R) (by repeat first | exact .refl | exact .nil | exact .z | apply Pk.s | refine Ge.e ?_ | apply Ge.pick | apply Ge.drop) ?_
         exact ⟨_, ⟨by simp [ActM.large, *], rfl⟩, by simp [ActM.large, *]⟩)
theorem play [Env] {R : List Seg} {q : Q3} {D : Dev} {a : ActM} (hD : D.ok) (ha : a.ok R) : Con Try.prog 36 [dp q, .agg a.cells.toArray] [dev q D] R (Is (.tuple #[]) [dev q (D.play a)]) := by
  have hb := ha.bytes
  have hk := ha.keeps
  refine con_enter Try.func36 Try.ntmps36 rfl rfl ?_
  refine cseq ?_; intro K1 hK1
  refine creg ?_
  refine ya (ac_box rfl rfl) rfl ?_
  rintro v L' ⟨b3, rfl, rfl⟩
  refine ynil' (kthn (hK1 _ _ ?_))
  clear hK1
  refine cseq ?_; intro K2 hK2
  refine creg ?_
  refine y (ev_fieldAddr 0 rfl Try.underlying30 rfl Try.sizeOf3) rfl ?_
  refine y (ev_load rfl Try.isAgg3 (by repeat first | exact .z | apply In.s) rfl) rfl ?_
  refine ynil' (kthn (hK2 _ _ ?_))
  clear hK2
  refine cblock ?_
  refine cseq ?_; intro K3 hK3
  refine creg ?_
  refine y (ev_eql rfl rfl) rfl ?_
  refine y (ev_assign rfl) rfl ?_
  refine ynil' (kthn (hK3 _ _ ?_))
  clear hK3
  refine ccond rfl (fun h22 => ?_) (fun h22 => ?_)
  · (try simp only [decide_eq_true_eq, beq_iff_eq, beq_eq_false_iff_ne, decide_eq_decide, decide_eq_false_iff_not, Bool.not_eq_true', Bool.not_eq_false', Bool.not_eq_true, Bool.not_eq_false, Bool.not_not, ne_eq, Option.isNone_some, Option.isSome_some, Option.isNone_none, Option.isSome_none] at h22)
    refine creg ?_
    refine y (ev_move rfl) rfl ?_
    refine y (ev_fieldAddr 1 rfl Try.underlying30 rfl Try.sizeOf3) rfl ?_
    refine y (ev_load rfl Try.isAgg3 (by repeat first | exact .z | apply In.s) rfl) rfl ?_
    refine y (ev_fieldAddr 2 rfl Try.underlying30 rfl Try.sizeOf27) rfl ?_
    refine y (ev_load rfl Try.isAgg27 (by repeat first | exact .z | apply In.s) rfl) rfl ?_
    refine ycall (secWrite (bs := a.bs) ?ok28 ?rd28) rfl Try.call18 (by repeat first | exact .nil | exact .z | apply Pk.s | apply Tk.cons) rfl ?_
    case ok28 => exact hD
    case rd28 => exact hb.mono (by repeat first | exact .refl | exact .nil | exact .z | apply Pk.s | refine Ge.e ?_ | apply Ge.pick | apply Ge.drop)
    rintro v L' ⟨rfl, rfl⟩
    refine ynil' (kbn ?_)
    first
      | (exfalso; omega; done)
      | (refine kendv0 Try.results36 (L1 := [dev q _] ++ R) (by repeat first | exact .refl | exact .nil | exact .z | apply Pk.s | refine Ge.e ?_ | apply Ge.pick | apply Ge.drop) ?_
         exact ⟨_, ⟨by simp [Dev.play, *], rfl⟩, by simp [Dev.play, *]⟩)
  · (try simp only [decide_eq_true_eq, beq_iff_eq, beq_eq_false_iff_ne, decide_eq_decide, decide_eq_false_iff_not, Bool.not_eq_true', Bool.not_eq_false', Bool.not_eq_true, Bool.not_eq_false, Bool.not_not, ne_eq, Option.isNone_some, Option.isSome_some, Option.isNone_none, Option.isSome_none] at h22)
    refine cseq ?_; intro K4 hK4
    refine creg ?_
    refine y (ev_eql rfl rfl) rfl ?_
    refine y (ev_assign rfl) rfl ?_
    refine ynil' (kthn (hK4 _ _ ?_))
    clear hK4
    refine ccond rfl (fun h31 => ?_) (fun h31 => ?_)
    · (try simp only [decide_eq_true_eq, beq_iff_eq, beq_eq_false_iff_ne, decide_eq_decide, decide_eq_false_iff_not, Bool.not_eq_true', Bool.not_eq_false', Bool.not_eq_true, Bool.not_eq_false, Bool.not_not, ne_eq, Option.isNone_some, Option.isSome_some, Option.isNone_none, Option.isSome_none] at h31)
      refine creg ?_
      refine y (ev_move rfl) rfl ?_
      refine ycall (secBarrier ?ok33) rfl Try.call17 (by repeat first | exact .nil | exact .z | apply Pk.s | apply Tk.cons) rfl ?_
      case ok33 => exact hD
      rintro v L' ⟨rfl, rfl⟩
      refine ynil' (kbn ?_)
      first
        | (exfalso; omega; done)
        | (refine kendv0 Try.results36 (L1 := [dev q _] ++ R) (by repeat first | exact .refl | exact .nil | exact .z | apply Pk.s | refine Ge.e ?_ | apply Ge.pick | apply Ge.drop) ?_
           exact ⟨_, ⟨by simp [Dev.play, *], rfl⟩, by simp [Dev.play, *]⟩)
    · (try simp only [decide_eq_true_eq, beq_iff_eq, beq_eq_false_iff_ne, decide_eq_decide, decide_eq_false_iff_not, Bool.not_eq_true', Bool.not_eq_false', Bool.not_eq_true, Bool.not_eq_false, Bool.not_not, ne_eq, Option.isNone_some, Option.isSome_some, Option.isNone_none, Option.isSome_none] at h31)
      refine cseq ?_; intro K5 hK5
      refine creg ?_
      refine y (ev_eql rfl rfl) rfl ?_
      refine y (ev_assign rfl) rfl ?_
      refine ynil' (kthn (hK5 _ _ ?_))
      clear hK5
      refine ccond rfl (fun h36 => ?_) (fun h36 => ?_)
      · (try simp only [decide_eq_true_eq, beq_iff_eq, beq_eq_false_iff_ne, decide_eq_decide, decide_eq_false_iff_not, Bool.not_eq_true', Bool.not_eq_false', Bool.not_eq_true, Bool.not_eq_false, Bool.not_not, ne_eq, Option.isNone_some, Option.isSome_some, Option.isNone_none, Option.isSome_none] at h36)
        refine creg ?_
        refine y (ev_move rfl) rfl ?_
        refine y (ev_fieldAddr 1 rfl Try.underlying30 rfl Try.sizeOf3) rfl ?_
        refine y (ev_load rfl Try.isAgg3 (by repeat first | exact .z | apply In.s) rfl) rfl ?_
        refine ycall (secFuse) rfl Try.call16 (by repeat first | exact .nil | exact .z | apply Pk.s | apply Tk.cons) rfl ?_
        rintro v L' ⟨rfl, rfl⟩
        refine ynil' (kbn ?_)
        first
          | (exfalso; omega; done)
          | (refine kendv0 Try.results36 (L1 := [dev q _] ++ R) (by repeat first | exact .refl | exact .nil | exact .z | apply Pk.s | refine Ge.e ?_ | apply Ge.pick | apply Ge.drop) ?_
             exact ⟨_, ⟨by simp [Dev.play, *], rfl⟩, by simp [Dev.play, *]⟩)
      · (try simp only [decide_eq_true_eq, beq_iff_eq, beq_eq_false_iff_ne, decide_eq_decide, decide_eq_false_iff_not, Bool.not_eq_true', Bool.not_eq_false', Bool.not_eq_true, Bool.not_eq_false, Bool.not_not, ne_eq, Option.isNone_some, Option.isSome_some, Option.isNone_none, Option.isSome_none] at h36)
        refine cseq ?_; intro K6 hK6
        refine creg ?_
        refine y (ev_eql rfl rfl) rfl ?_
        refine y (ev_assign rfl) rfl ?_
        refine ynil' (kthn (hK6 _ _ ?_))
        clear hK6
        refine ccond rfl (fun h43 => ?_) (fun h43 => ?_)
        · (try simp only [decide_eq_true_eq, beq_iff_eq, beq_eq_false_iff_ne, decide_eq_decide, decide_eq_false_iff_not, Bool.not_eq_true', Bool.not_eq_false', Bool.not_eq_true, Bool.not_eq_false, Bool.not_not, ne_eq, Option.isNone_some, Option.isSome_some, Option.isNone_none, Option.isSome_none] at h43)
          refine creg ?_
          refine y (ev_move rfl) rfl ?_
          refine y (ev_fieldAddr 3 rfl Try.underlying30 rfl Try.sizeOf28) rfl ?_
          refine y (ev_load rfl Try.isAgg28 (by repeat first | exact .z | apply In.s) rfl) rfl ?_
          refine ycall (secCrash (ks := a.ks) ?ok47 ?ks47) rfl Try.call25 (by repeat first | exact .nil | exact .z | apply Pk.s | apply Tk.cons) rfl ?_
          case ok47 => exact hD
          case ks47 => exact hk.mono (by repeat first | exact .refl | exact .nil | exact .z | apply Pk.s | refine Ge.e ?_ | apply Ge.pick | apply Ge.drop)
          rintro v L' ⟨rfl, rfl⟩
          refine ynil' (kbn ?_)
          first
            | (exfalso; omega; done)
            | (refine kendv0 Try.results36 (L1 := [dev q _] ++ R) (by repeat first | exact .refl | exact .nil | exact .z | apply Pk.s | refine Ge.e ?_ | apply Ge.pick | apply Ge.drop) ?_
               exact ⟨_, ⟨by simp [Dev.play, *], rfl⟩, by simp [Dev.play, *]⟩)
        · (try simp only [decide_eq_true_eq, beq_iff_eq, beq_eq_false_iff_ne, decide_eq_decide, decide_eq_false_iff_not, Bool.not_eq_true', Bool.not_eq_false', Bool.not_eq_true, Bool.not_eq_false, Bool.not_not, ne_eq, Option.isNone_some, Option.isSome_some, Option.isNone_none, Option.isSome_none] at h43)
          refine cseq ?_; intro K7 hK7
          refine creg ?_
          refine y (ev_eql rfl rfl) rfl ?_
          refine y (ev_assign rfl) rfl ?_
          refine ynil' (kthn (hK7 _ _ ?_))
          clear hK7
          refine ccond rfl (fun h50 => ?_) (fun h50 => ?_)
          · (try simp only [decide_eq_true_eq, beq_iff_eq, beq_eq_false_iff_ne, decide_eq_decide, decide_eq_false_iff_not, Bool.not_eq_true', Bool.not_eq_false', Bool.not_eq_true, Bool.not_eq_false, Bool.not_not, ne_eq, Option.isNone_some, Option.isSome_some, Option.isNone_none, Option.isSome_none] at h50)
            refine creg ?_
            refine y (ev_move rfl) rfl ?_
            refine ycall (secLose ?ok52) rfl Try.call28 (by repeat first | exact .nil | exact .z | apply Pk.s | apply Tk.cons) rfl ?_
            case ok52 => exact hD
            rintro v L' ⟨rfl, rfl⟩
            refine ynil' (kbn ?_)
            first
              | (exfalso; omega; done)
              | (refine kendv0 Try.results36 (L1 := [dev q _] ++ R) (by repeat first | exact .refl | exact .nil | exact .z | apply Pk.s | refine Ge.e ?_ | apply Ge.pick | apply Ge.drop) ?_
                 exact ⟨_, ⟨by simp [Dev.play, *], rfl⟩, by simp [Dev.play, *]⟩)
          · (try simp only [decide_eq_true_eq, beq_iff_eq, beq_eq_false_iff_ne, decide_eq_decide, decide_eq_false_iff_not, Bool.not_eq_true', Bool.not_eq_false', Bool.not_eq_true, Bool.not_eq_false, Bool.not_not, ne_eq, Option.isNone_some, Option.isSome_some, Option.isNone_none, Option.isSome_none] at h50)
            refine cskip' (kbn ?_)
            first
              | (exfalso; omega; done)
              | (refine kendv0 Try.results36 (L1 := [dev q _] ++ R) (by repeat first | exact .refl | exact .nil | exact .z | apply Pk.s | refine Ge.e ?_ | apply Ge.pick | apply Ge.drop) ?_
                 exact ⟨_, ⟨by simp [Dev.play, *], rfl⟩, by simp [Dev.play, *]⟩)

theorem lawFuse [Env] {R : List Seg} {fu : Int} {lv : Value} {acts : List ActM} (hl : RdV R lv acts.length (actsV acts)) (ha : ∀ a ∈ acts, a.ok R) (h0 : 0 ≤ fu) (h1 : fu ≤ 255) :
    Con Try.prog 3 [.int .u8 fu, lv] [] R (Is (.bool true) []) := by
  refine con_enter Try.func3 Try.ntmps3 rfl rfl ?_
  refine cseq ?_; intro K1 hK1
  refine creg ?_
  refine y (ev_assign rfl) rfl ?_
  refine ynil' (kthn (hK1 _ _ ?_))
  clear hK1
  refine cseq ?_; intro K2 hK2
  refine cseq ?_; intro K3 hK3
  refine creg ?_
  refine ycall (awake) rfl Try.call14 (by repeat first | exact .nil | exact .z | apply Pk.s | apply Tk.cons) rfl ?_
  rintro v L' ⟨rfl, rfl⟩
  refine y (ev_not rfl) rfl ?_
  refine ynil' (kthn (hK3 _ _ ?_))
  clear hK3
  refine ccond rfl (fun h56 => ?_) (fun h56 => ?_)
  · (try simp only [decide_eq_true_eq, beq_iff_eq, beq_eq_false_iff_ne, decide_eq_decide, decide_eq_false_iff_not, Bool.not_eq_true', Bool.not_eq_false', Bool.not_eq_true, Bool.not_eq_false, Bool.not_not, ne_eq, Option.isNone_some, Option.isSome_some, Option.isNone_none, Option.isSome_none] at h56)
    refine cseq ?_; intro K4 hK4
    refine creg ?_
    refine y (ev_assign rfl) rfl ?_
    refine ynil' (kthn (hK4 _ _ ?_))
    clear hK4
    refine cret (kthr ?_)
    first
      | (exfalso; omega; done)
      | (refine kretv Try.results3 rfl (L1 := R) (by repeat first | exact .refl | exact .nil | exact .z | apply Pk.s | refine Ge.e ?_ | apply Ge.pick | apply Ge.drop) ?_
         exact ⟨_, ⟨by first | rfl | (simp [*]; done) | (simp [*]; omega) | simp_all, rfl⟩, by first | rfl | (simp [*]; done) | (simp [*]; omega) | simp_all⟩)
  · (try simp only [decide_eq_true_eq, beq_iff_eq, beq_eq_false_iff_ne, decide_eq_decide, decide_eq_false_iff_not, Bool.not_eq_true', Bool.not_eq_false', Bool.not_eq_true, Bool.not_eq_false, Bool.not_not, ne_eq, Option.isNone_some, Option.isSome_some, Option.isNone_none, Option.isSome_none] at h56)
    refine cskip' (kthn (hK2 _ _ ?_))
    clear hK2
    refine cseq ?_; intro K5 hK5
    refine creg ?_
    refine ycall (secNew (n := 16) (by omega)) rfl Try.call15 (by repeat first | exact .nil | exact .z | apply Pk.s | apply Tk.cons) rfl ?_
    rintro v L' ⟨q12, rfl, rfl⟩
    refine y (ev_assign rfl) rfl ?_
    refine ynil' (kthn (hK5 _ _ ?_))
    clear hK5
    refine cseq ?_; intro K6 hK6
    refine cseq ?_; intro K7 hK7
    refine creg ?_
    refine y (ev_move rfl) rfl ?_
    refine y (ev_eqlPnil rfl rfl Try.underlying24) rfl ?_
    refine ynil' (kthn (hK7 _ _ ?_))
    clear hK7
    refine ccond rfl (fun h62 => ?_) (fun h62 => ?_)
    · (try simp only [decide_eq_true_eq, beq_iff_eq, beq_eq_false_iff_ne, decide_eq_decide, decide_eq_false_iff_not, Bool.not_eq_true', Bool.not_eq_false', Bool.not_eq_true, Bool.not_eq_false, Bool.not_not, ne_eq, Option.isNone_some, Option.isSome_some, Option.isNone_none, Option.isSome_none] at h62)
      refine cseq ?_; intro K8 hK8
      refine creg ?_
      refine y (ev_assign rfl) rfl ?_
      refine ynil' (kthn (hK8 _ _ ?_))
      clear hK8
      refine cret (kthr ?_)
      first
        | (exfalso; omega; done)
        | (refine kretv Try.results3 rfl (L1 := R) (by repeat first | exact .refl | exact .nil | exact .z | apply Pk.s | refine Ge.e ?_ | apply Ge.pick | apply Ge.drop) ?_
           exact ⟨_, ⟨by first | rfl | (simp [*]; done) | (simp [*]; omega) | simp_all, rfl⟩, by first | rfl | (simp [*]; done) | (simp [*]; omega) | simp_all⟩)
    · (try simp only [decide_eq_true_eq, beq_iff_eq, beq_eq_false_iff_ne, decide_eq_decide, decide_eq_false_iff_not, Bool.not_eq_true', Bool.not_eq_false', Bool.not_eq_true, Bool.not_eq_false, Bool.not_not, ne_eq, Option.isNone_some, Option.isSome_some, Option.isNone_none, Option.isSome_none] at h62)
      refine cskip' (kthn (hK6 _ _ ?_))
      clear hK6
      refine cseq ?_; intro K9 hK9
      refine creg ?_
      refine y (ev_move rfl) rfl ?_
      refine y (ev_rem rfl rfl (by decide)) rfl ?_
      rw [show fu.tmod 60 = fu % 60 by rw [Int.tmod_eq_emod_of_nonneg h0]]
      refine y (ev_conv rfl Try.underlying5 Try.underlying3) rfl ?_
      rw [wr (by omega) (by omega)]
      refine y (ev_assign rfl) rfl ?_
      refine ynil' (kthn (hK9 _ _ ?_))
      clear hK9
      refine cseq ?_; intro K10 hK10
      refine creg ?_
      refine y (ev_move rfl) rfl ?_
      refine y (ev_move rfl) rfl ?_
      refine ycall (secFuse) rfl Try.call16 (by repeat first | exact .nil | exact .z | apply Pk.s | apply Tk.cons) rfl ?_
      rintro v L' ⟨rfl, rfl⟩
      refine ynil' (kthn (hK10 _ _ ?_))
      clear hK10
      refine cseq ?_; intro K11 hK11
      refine cseq ?_; intro K12 hK12
      refine creg ?_
      refine y (ev_assign rfl) rfl ?_
      refine ynil' (kthn (hK12 _ _ ?_))
      clear hK12
      refine cblock ?_
      refine cloop (A := Nat × Dev) (fun x => [(7, i64 x.1), (6, i64 (fu % 60 - x.1)), (5, dp q12), (1, lv)]) (fun x => [dev q12 x.2] ++ R) (fun x => x.2.ok ∧ x.2.l.length = 16 ∧ x.1 ≤ acts.length ∧ x.1 ≤ 80 ∧ Fz x.2 (fu % 60 - x.1)) (fun x => acts.length - x.1) ((0, (Dev.new 16).setFuse (fu % 60))) ?_ (by repeat first | exact sub_nil | refine sub_cons rfl ?_ | refine sub_cons' rfl (by simp) ?_) (by repeat first | exact .refl | exact .nil | exact .z | apply Pk.s | refine Ge.e ?_ | apply Ge.pick | apply Ge.drop) ?_
      · exact ⟨Dev.setFuse_ok (Dev.new_ok (by decide)) (by omega), by simp [Dev.setFuse, Dev.new], Nat.zero_le _, Nat.zero_le _, by simpa using fuse_f rfl (by omega)⟩
      rintro ⟨k, D⟩ hI1 KL1 hL1
      obtain ⟨hD, hn, hk1, hk2, hF⟩ := hI1; dsimp only at hD hn hk1 hk2 hF ⊢
      refine cseq ?_; intro K13 hK13
      refine cseq ?_; intro K14 hK14
      refine creg ?_
      refine y (ev_move rfl) rfl ?_
      refine y (ev_move rfl) rfl ?_
      first
        | refine y (ev_len rfl Try.underlying22) rfl ?_
        | refine y (ev_lenSv rfl Try.underlying22 (by assumption)) rfl ?_
        | refine y (ev_lenV rfl Try.underlying22 (RdV.lenVal (by assumption))) rfl ?_
        | refine y (ev_lenV rfl Try.underlying22 (RdB.lenVal (by assumption))) rfl ?_
      refine y (ev_lss rfl rfl) rfl ?_
      refine y (ev_move rfl) rfl ?_
      refine ysplit 25 rfl (fun h77 => ?_) (fun h77 => ?_)
      · (try simp only [decide_eq_true_eq, beq_iff_eq, beq_eq_false_iff_ne, decide_eq_decide, decide_eq_false_iff_not, Bool.not_eq_true', Bool.not_eq_false', Bool.not_eq_true, Bool.not_eq_false, Bool.not_not, ne_eq, Option.isNone_some, Option.isSome_some, Option.isNone_none, Option.isSome_none] at h77)
        refine yg1 rfl rfl ?_
        refine y (ev_move rfl) rfl ?_
        refine yg1 rfl rfl ?_
        refine y (ev_lss rfl rfl) rfl ?_
        refine y (ev_pick1 rfl rfl) rfl ?_
        refine ynil' (kthn (hK14 _ _ ?_))
        clear hK14
        refine ccond rfl (fun h81 => ?_) (fun h81 => ?_)
        · (try simp only [decide_eq_true_eq, beq_iff_eq, beq_eq_false_iff_ne, decide_eq_decide, decide_eq_false_iff_not, Bool.not_eq_true', Bool.not_eq_false', Bool.not_eq_true, Bool.not_eq_false, Bool.not_not, ne_eq, Option.isNone_some, Option.isSome_some, Option.isNone_none, Option.isSome_none] at h81)
          obtain ⟨a, hka⟩ : ∃ a, acts[k]? = some a := ⟨_, List.getElem?_eq_getElem (by omega)⟩
          have hact := ha a (List.mem_of_getElem? hka)
          have hb := hact.bytes
          refine cskip' (kthn (hK13 _ _ ?_))
          clear hK13
          refine cseq ?_; intro K15 hK15
          refine cblock ?_
          refine cseq ?_; intro K16 hK16
          refine creg ?_
          refine y (ev_move rfl) rfl ?_
          refine y (ev_move rfl) rfl ?_
          first
            | refine y (ev_ixAddr rfl rfl Try.underlying22 Try.sizeOf30 (by omega) (by omega)) rfl ?_
            | refine y (ev_ixV (by assumption) rfl rfl Try.underlying22 Try.sizeOf30 (by omega) (by omega)) rfl ?_
          refine y (ev_loadNV (us := a.cells) (k * 4) hl (by repeat first | exact .refl | exact .nil | exact .z | apply Pk.s | refine Ge.e ?_ | apply Ge.pick | apply Ge.drop) rfl Try.isAgg30 Try.sizeOf30 (by simp) (actsV_get _ _ _ hka) rfl) rfl ?_
          refine ya (ac_alloc Try.zeroValue30 rfl) rfl ?_
          rintro v L' ⟨b8, rfl, rfl⟩
          refine ya0 (ac_storeN rfl rfl (cells_one hact) Try.sizeOf30 (by repeat first | exact .z | apply Rp.s) rfl (by decide) rfl) ?_
          rintro v L' ⟨rfl, rfl⟩
          refine ynil' (kthn (hK16 _ _ ?_))
          clear hK16
          refine cseq ?_; intro K17 hK17
          refine cseq ?_; intro K18 hK18
          refine creg ?_
          refine y (ev_fieldAddr 2 rfl Try.underlying30 rfl Try.sizeOf27) rfl ?_
          refine y (ev_load rfl Try.isAgg27 (by repeat first | exact .z | apply In.s) rfl) rfl ?_
          first
            | refine y (ev_len rfl Try.underlying27) rfl ?_
            | refine y (ev_lenSv rfl Try.underlying27 (by assumption)) rfl ?_
            | refine y (ev_lenV rfl Try.underlying27 (RdV.lenVal (by assumption))) rfl ?_
            | refine y (ev_lenV rfl Try.underlying27 (RdB.lenVal (by assumption))) rfl ?_
          refine y (ev_gtr rfl rfl) rfl ?_
          refine ynil' (kthn (hK18 _ _ ?_))
          clear hK18
          refine ccond rfl (fun h92 => ?_) (fun h92 => ?_)
          · (try simp only [decide_eq_true_eq, beq_iff_eq, beq_eq_false_iff_ne, decide_eq_decide, decide_eq_false_iff_not, Bool.not_eq_true', Bool.not_eq_false', Bool.not_eq_true, Bool.not_eq_false, Bool.not_not, ne_eq, Option.isNone_some, Option.isSome_some, Option.isNone_none, Option.isSome_none] at h92)
            refine cseq ?_; intro K19 hK19
            refine creg ?_
            refine y (ev_assign rfl) rfl ?_
            refine ynil' (kthn (hK19 _ _ ?_))
            clear hK19
            refine cret (kthr (kbr (kthr (kthr (kbr (kthr ?_))))))
            first
              | (exfalso; omega; done)
              | (refine kretv Try.results3 rfl (L1 := R) (by repeat first | exact .refl | exact .nil | exact .z | apply Pk.s | refine Ge.e ?_ | apply Ge.pick | apply Ge.drop) ?_
                 exact ⟨_, ⟨by first | rfl | (simp [*]; done) | (simp [*]; omega) | simp_all, rfl⟩, by first | rfl | (simp [*]; done) | (simp [*]; omega) | simp_all⟩)
          · (try simp only [decide_eq_true_eq, beq_iff_eq, beq_eq_false_iff_ne, decide_eq_decide, decide_eq_false_iff_not, Bool.not_eq_true', Bool.not_eq_false', Bool.not_eq_true, Bool.not_eq_false, Bool.not_not, ne_eq, Option.isNone_some, Option.isSome_some, Option.isNone_none, Option.isSome_none] at h92)
            refine cskip' (kthn (hK17 _ _ ?_))
            clear hK17
            refine cseq ?_; intro K20 hK20
            refine creg ?_
            refine y (ev_assign rfl) rfl ?_
            refine ynil' (kthn (hK20 _ _ ?_))
            clear hK20
            refine cseq ?_; intro K21 hK21
            refine cseq ?_; intro K22 hK22
            refine creg ?_
            refine y (ev_fieldAddr 0 rfl Try.underlying30 rfl Try.sizeOf3) rfl ?_
            refine y (ev_load rfl Try.isAgg3 (by repeat first | exact .z | apply In.s) rfl) rfl ?_
            refine y (ev_eql rfl rfl) rfl ?_
            refine ynil' (kthn (hK22 _ _ ?_))
            clear hK22
            refine ccond rfl (fun h98 => ?_) (fun h98 => ?_)
            · (try simp only [decide_eq_true_eq, beq_iff_eq, beq_eq_false_iff_ne, decide_eq_decide, decide_eq_false_iff_not, Bool.not_eq_true', Bool.not_eq_false', Bool.not_eq_true, Bool.not_eq_false, Bool.not_not, ne_eq, Option.isNone_some, Option.isSome_some, Option.isNone_none, Option.isSome_none] at h98)
              refine creg ?_
              refine y (ev_move rfl) rfl ?_
              refine ycall (secBarrier ?ok100) rfl Try.call17 (by repeat first | exact .nil | exact .z | apply Pk.s | apply Tk.cons) rfl ?_
              case ok100 => exact hD
              rintro v L' ⟨rfl, rfl⟩
              obtain ⟨hs1, hs2, hs3, hs4⟩ := barrier_f hF (by omega)
              have hD' := Dev.barrier_ok hD
              have hn' : D.barrier.2.l.length = 16 := barrier_l.trans hn
              refine y (ev_assign rfl) rfl ?_
              refine ynil' (kthn (hK21 _ _ ?_))
              clear hK21
              refine cseq ?_; intro K23 hK23
              refine cseq ?_; intro K24 hK24
              refine creg ?_
              refine y (ev_move rfl) rfl ?_
              refine y (ev_eql rfl rfl) rfl ?_
              refine y (ev_move rfl) rfl ?_
              refine y (ev_gtr rfl rfl) rfl ?_
              refine y (ev_neqB rfl rfl Try.underlying4) rfl ?_
              refine y (ev_move rfl) rfl ?_
              refine ysplit 56 rfl (fun h108 => ?_) (fun h108 => ?_)
              · (try simp only [decide_eq_true_eq, beq_iff_eq, beq_eq_false_iff_ne, decide_eq_decide, decide_eq_false_iff_not, Bool.not_eq_true', Bool.not_eq_false', Bool.not_eq_true, Bool.not_eq_false, Bool.not_not, ne_eq, Option.isNone_some, Option.isSome_some, Option.isNone_none, Option.isSome_none] at h108)
                refine yg0 rfl rfl rfl rfl ?_
                refine yg0 rfl rfl rfl rfl ?_
                refine yg0 rfl rfl rfl rfl ?_
                refine yg0u rfl rfl rfl ?_
                refine yg0u rfl rfl rfl ?_
                refine yg0 rfl rfl rfl rfl ?_
                refine y (ev_pick1 rfl rfl) rfl ?_
                refine y (ev_move rfl) rfl ?_
                refine yg0 rfl rfl rfl rfl ?_
                refine yg0 rfl rfl rfl rfl ?_
                refine yg0 rfl rfl rfl rfl ?_
                refine yg0 rfl rfl rfl rfl ?_
                refine yg0 rfl rfl rfl rfl ?_
                refine y (ev_pick1 rfl rfl) rfl ?_
                refine ynil' (kthn (hK24 _ _ ?_))
                clear hK24
                refine ccond1 rfl ?_
                refine cseq ?_; intro K25 hK25
                refine creg ?_
                refine y (ev_assign rfl) rfl ?_
                refine ynil' (kthn (hK25 _ _ ?_))
                clear hK25
                refine cret (kthr (kbr (kthr (kthr (kbr (kthr ?_))))))
                first
                  | (exfalso; omega; done)
                  | (refine kretv Try.results3 rfl (L1 := R) (by repeat first | exact .refl | exact .nil | exact .z | apply Pk.s | refine Ge.e ?_ | apply Ge.pick | apply Ge.drop) ?_
                     exact ⟨_, ⟨by first | rfl | (simp [*]; done) | (simp [*]; omega) | simp_all, rfl⟩, by first | rfl | (simp [*]; done) | (simp [*]; omega) | simp_all⟩)
              · (try simp only [decide_eq_true_eq, beq_iff_eq, beq_eq_false_iff_ne, decide_eq_decide, decide_eq_false_iff_not, Bool.not_eq_true', Bool.not_eq_false', Bool.not_eq_true, Bool.not_eq_false, Bool.not_not, ne_eq, Option.isNone_some, Option.isSome_some, Option.isNone_none, Option.isSome_none] at h108)
                refine yg1 rfl rfl ?_
                refine y (ev_move rfl) rfl ?_
                refine yg1 rfl rfl ?_
                refine y (ev_neq rfl rfl) rfl ?_
                refine yg1 rfl rfl ?_
                refine y (ev_move rfl) rfl ?_
                refine ysplit 59 rfl (fun h116 => ?_) (fun h116 => ?_)
                · (try simp only [decide_eq_true_eq, beq_iff_eq, beq_eq_false_iff_ne, decide_eq_decide, decide_eq_false_iff_not, Bool.not_eq_true', Bool.not_eq_false', Bool.not_eq_true, Bool.not_eq_false, Bool.not_not, ne_eq, Option.isNone_some, Option.isSome_some, Option.isNone_none, Option.isSome_none] at h116)
                  refine yg1 rfl rfl ?_
                  refine y (ev_move rfl) rfl ?_
                  refine yg1 rfl rfl ?_
                  refine y (ev_neq rfl rfl) rfl ?_
                  refine yg1 rfl rfl ?_
                  refine y (ev_pick1 rfl rfl) rfl ?_
                  refine y (ev_pick0 rfl rfl) rfl ?_
                  refine y (ev_move rfl) rfl ?_
                  refine ysplit 64 rfl (fun h122 => ?_) (fun h122 => ?_)
                  · (try simp only [decide_eq_true_eq, beq_iff_eq, beq_eq_false_iff_ne, decide_eq_decide, decide_eq_false_iff_not, Bool.not_eq_true', Bool.not_eq_false', Bool.not_eq_true, Bool.not_eq_false, Bool.not_not, ne_eq, Option.isNone_some, Option.isSome_some, Option.isNone_none, Option.isSome_none] at h122)
                    refine yg0 rfl rfl rfl rfl ?_
                    refine yg0 rfl rfl rfl rfl ?_
                    refine yg0 rfl rfl rfl rfl ?_
                    refine yg0 rfl rfl rfl rfl ?_
                    refine yg0 rfl rfl rfl rfl ?_
                    refine y (ev_pick1 rfl rfl) rfl ?_
                    refine ynil' (kthn (hK24 _ _ ?_))
                    clear hK24
                    refine ccond1 rfl ?_
                    refine cseq ?_; intro K26 hK26
                    refine creg ?_
                    refine y (ev_assign rfl) rfl ?_
                    refine ynil' (kthn (hK26 _ _ ?_))
                    clear hK26
                    refine cret (kthr (kbr (kthr (kthr (kbr (kthr ?_))))))
                    first
                      | (exfalso; omega; done)
                      | (refine kretv Try.results3 rfl (L1 := R) (by repeat first | exact .refl | exact .nil | exact .z | apply Pk.s | refine Ge.e ?_ | apply Ge.pick | apply Ge.drop) ?_
                         exact ⟨_, ⟨by first | rfl | (simp [*]; done) | (simp [*]; omega) | simp_all, rfl⟩, by first | rfl | (simp [*]; done) | (simp [*]; omega) | simp_all⟩)
                  · (try simp only [decide_eq_true_eq, beq_iff_eq, beq_eq_false_iff_ne, decide_eq_decide, decide_eq_false_iff_not, Bool.not_eq_true', Bool.not_eq_false', Bool.not_eq_true, Bool.not_eq_false, Bool.not_not, ne_eq, Option.isNone_some, Option.isSome_some, Option.isNone_none, Option.isSome_none] at h122)
                    refine yg1 rfl rfl ?_
                    refine y (ev_move rfl) rfl ?_
                    refine yg1 rfl rfl ?_
                    refine ycall (secDead) rfl Try.call19 (by repeat first | exact .nil | exact .z | apply Pk.s | apply Tk.cons) rfl ?_
                    rintro v L' ⟨rfl, rfl⟩
                    rw [hs3]
                    refine yg1 rfl rfl ?_
                    refine y (ev_move rfl) rfl ?_
                    refine yg1 rfl rfl ?_
                    refine y (ev_leq rfl rfl) rfl ?_
                    refine yg1 rfl rfl ?_
                    refine y (ev_neqB rfl rfl Try.underlying4) rfl ?_
                    refine y (ev_pick0 rfl rfl) rfl ?_
                    refine ynil' (kthn (hK24 _ _ ?_))
                    clear hK24
                    refine ccond rfl (fun h131 => ?_) (fun h131 => ?_)
                    · (try simp only [decide_eq_true_eq, beq_iff_eq, beq_eq_false_iff_ne, decide_eq_decide, decide_eq_false_iff_not, Bool.not_eq_true', Bool.not_eq_false', Bool.not_eq_true, Bool.not_eq_false, Bool.not_not, ne_eq, Option.isNone_some, Option.isSome_some, Option.isNone_none, Option.isSome_none] at h131)
                      refine cseq ?_; intro K27 hK27
                      refine creg ?_
                      refine y (ev_assign rfl) rfl ?_
                      refine ynil' (kthn (hK27 _ _ ?_))
                      clear hK27
                      refine cret (kthr (kbr (kthr (kthr (kbr (kthr ?_))))))
                      first
                        | (exfalso; omega; done)
                        | (refine kretv Try.results3 rfl (L1 := R) (by repeat first | exact .refl | exact .nil | exact .z | apply Pk.s | refine Ge.e ?_ | apply Ge.pick | apply Ge.drop) ?_
                           exact ⟨_, ⟨by first | rfl | (simp [*]; done) | (simp [*]; omega) | simp_all, rfl⟩, by first | rfl | (simp [*]; done) | (simp [*]; omega) | simp_all⟩)
                    · (try simp only [decide_eq_true_eq, beq_iff_eq, beq_eq_false_iff_ne, decide_eq_decide, decide_eq_false_iff_not, Bool.not_eq_true', Bool.not_eq_false', Bool.not_eq_true, Bool.not_eq_false, Bool.not_not, ne_eq, Option.isNone_some, Option.isSome_some, Option.isNone_none, Option.isSome_none] at h131)
                      refine cskip' (kthn (hK23 _ _ ?_))
                      clear hK23
                      refine creg ?_
                      refine y (ev_move rfl) rfl ?_
                      refine y (ev_sub rfl rfl) rfl ?_
                      rw [wr (by omega) (by omega), show fu % 60 - (k : Int) - 1 = fu % 60 - ((k + 1 : Nat) : Int) by omega]
                      refine y (ev_assign rfl) rfl ?_
                      refine ynil' (kbn (kthn (hK15 _ _ ?_)))
                      clear hK15
                      refine creg ?_
                      refine y (ev_move rfl) rfl ?_
                      refine y (ev_add rfl rfl) rfl ?_
                      rw [show IntKind.i64.wrap ((k:Int) + 1) = ((k+1 : Nat) : Int) by rw [wr (by omega) (by omega)]; rfl]
                      refine y (ev_assign rfl) rfl ?_
                      refine ynil' (kthn ?_)
                      first
                        | (exfalso; omega; done)
                        | exact hL1 (k + 1, _) ⟨hD', hn', by dsimp only; omega, by dsimp only; omega, by rw [show fu % 60 - ((k + 1 : Nat) : Int) = fu % 60 - (k : Int) - 1 by omega]; exact hs4⟩ (by dsimp only; omega) _ _ (by repeat first | exact sub_nil | refine sub_cons rfl ?_ | refine sub_cons' rfl (by simp) ?_) (by repeat first | exact .refl | exact .nil | exact .z | apply Pk.s | refine Ge.e ?_ | apply Ge.pick | apply Ge.drop)
                · (try simp only [decide_eq_true_eq, beq_iff_eq, beq_eq_false_iff_ne, decide_eq_decide, decide_eq_false_iff_not, Bool.not_eq_true', Bool.not_eq_false', Bool.not_eq_true, Bool.not_eq_false, Bool.not_not, ne_eq, Option.isNone_some, Option.isSome_some, Option.isNone_none, Option.isSome_none] at h116)
                  refine yg0 rfl rfl rfl rfl ?_
                  refine yg0 rfl rfl rfl rfl ?_
                  refine yg1 rfl rfl ?_
                  refine y (ev_pick0 rfl rfl) rfl ?_
                  refine y (ev_pick0 rfl rfl) rfl ?_
                  refine y (ev_move rfl) rfl ?_
                  refine yg1 rfl rfl ?_
                  refine y (ev_move rfl) rfl ?_
                  refine yg1 rfl rfl ?_
                  refine ycall (secDead) rfl Try.call19 (by repeat first | exact .nil | exact .z | apply Pk.s | apply Tk.cons) rfl ?_
                  rintro v L' ⟨rfl, rfl⟩
                  rw [hs3]
                  refine yg1 rfl rfl ?_
                  refine y (ev_move rfl) rfl ?_
                  refine yg1 rfl rfl ?_
                  refine y (ev_leq rfl rfl) rfl ?_
                  refine yg1 rfl rfl ?_
                  refine y (ev_neqB rfl rfl Try.underlying4) rfl ?_
                  refine y (ev_pick0 rfl rfl) rfl ?_
                  refine ynil' (kthn (hK24 _ _ ?_))
                  clear hK24
                  refine ccond rfl (fun h148 => ?_) (fun h148 => ?_)
                  · (try simp only [decide_eq_true_eq, beq_iff_eq, beq_eq_false_iff_ne, decide_eq_decide, decide_eq_false_iff_not, Bool.not_eq_true', Bool.not_eq_false', Bool.not_eq_true, Bool.not_eq_false, Bool.not_not, ne_eq, Option.isNone_some, Option.isSome_some, Option.isNone_none, Option.isSome_none] at h148)
                    refine cseq ?_; intro K28 hK28
                    refine creg ?_
                    refine y (ev_assign rfl) rfl ?_
                    refine ynil' (kthn (hK28 _ _ ?_))
                    clear hK28
                    refine cret (kthr (kbr (kthr (kthr (kbr (kthr ?_))))))
                    first
                      | (exfalso; omega; done)
                      | (refine kretv Try.results3 rfl (L1 := R) (by repeat first | exact .refl | exact .nil | exact .z | apply Pk.s | refine Ge.e ?_ | apply Ge.pick | apply Ge.drop) ?_
                         exact ⟨_, ⟨by first | rfl | (simp [*]; done) | (simp [*]; omega) | simp_all, rfl⟩, by first | rfl | (simp [*]; done) | (simp [*]; omega) | simp_all⟩)
                  · (try simp only [decide_eq_true_eq, beq_iff_eq, beq_eq_false_iff_ne, decide_eq_decide, decide_eq_false_iff_not, Bool.not_eq_true', Bool.not_eq_false', Bool.not_eq_true, Bool.not_eq_false, Bool.not_not, ne_eq, Option.isNone_some, Option.isSome_some, Option.isNone_none, Option.isSome_none] at h148)
                    refine cskip' (kthn (hK23 _ _ ?_))
                    clear hK23
                    refine creg ?_
                    refine y (ev_move rfl) rfl ?_
                    refine y (ev_sub rfl rfl) rfl ?_
                    rw [wr (by omega) (by omega), show fu % 60 - (k : Int) - 1 = fu % 60 - ((k + 1 : Nat) : Int) by omega]
                    refine y (ev_assign rfl) rfl ?_
                    refine ynil' (kbn (kthn (hK15 _ _ ?_)))
                    clear hK15
                    refine creg ?_
                    refine y (ev_move rfl) rfl ?_
                    refine y (ev_add rfl rfl) rfl ?_
                    rw [show IntKind.i64.wrap ((k:Int) + 1) = ((k+1 : Nat) : Int) by rw [wr (by omega) (by omega)]; rfl]
                    refine y (ev_assign rfl) rfl ?_
                    refine ynil' (kthn ?_)
                    first
                      | (exfalso; omega; done)
                      | exact hL1 (k + 1, _) ⟨hD', hn', by dsimp only; omega, by dsimp only; omega, by rw [show fu % 60 - ((k + 1 : Nat) : Int) = fu % 60 - (k : Int) - 1 by omega]; exact hs4⟩ (by dsimp only; omega) _ _ (by repeat first | exact sub_nil | refine sub_cons rfl ?_ | refine sub_cons' rfl (by simp) ?_) (by repeat first | exact .refl | exact .nil | exact .z | apply Pk.s | refine Ge.e ?_ | apply Ge.pick | apply Ge.drop)
            · (try simp only [decide_eq_true_eq, beq_iff_eq, beq_eq_false_iff_ne, decide_eq_decide, decide_eq_false_iff_not, Bool.not_eq_true', Bool.not_eq_false', Bool.not_eq_true, Bool.not_eq_false, Bool.not_not, ne_eq, Option.isNone_some, Option.isSome_some, Option.isNone_none, Option.isSome_none] at h98)
              refine creg ?_
              refine y (ev_move rfl) rfl ?_
              refine y (ev_fieldAddr 1 rfl Try.underlying30 rfl Try.sizeOf3) rfl ?_
              refine y (ev_load rfl Try.isAgg3 (by repeat first | exact .z | apply In.s) rfl) rfl ?_
              refine y (ev_and rfl rfl) rfl ?_
              refine y (ev_fieldAddr 2 rfl Try.underlying30 rfl Try.sizeOf27) rfl ?_
              refine y (ev_load rfl Try.isAgg27 (by repeat first | exact .z | apply In.s) rfl) rfl ?_
              refine ycall (secWrite (bs := a.bs) ?ok162 ?rd162) rfl Try.call18 (by repeat first | exact .nil | exact .z | apply Pk.s | apply Tk.cons) rfl ?_
              case ok162 => exact hD
              case rd162 => exact hb.mono (by repeat first | exact .refl | exact .nil | exact .z | apply Pk.s | refine Ge.e ?_ | apply Ge.pick | apply Ge.drop)
              rintro v L' ⟨rfl, rfl⟩
              have hb15 := bAnd15 a.i
              obtain ⟨hs1, hs2, hs3, hs4⟩ := write_f (bs := a.bs) hF (by omega) hb15.1 (by omega) (by omega)
              have hD' := Dev.write_ok hD (bAnd .i64 a.i 15) a.bs
              have hn' : (D.write (bAnd .i64 a.i 15) a.bs).2.l.length = 16 := by rw [write_l]; exact hn
              refine y (ev_assign rfl) rfl ?_
              refine ynil' (kthn (hK21 _ _ ?_))
              clear hK21
              refine cseq ?_; intro K29 hK29
              refine cseq ?_; intro K30 hK30
              refine creg ?_
              refine y (ev_move rfl) rfl ?_
              refine y (ev_eql rfl rfl) rfl ?_
              refine y (ev_move rfl) rfl ?_
              refine y (ev_gtr rfl rfl) rfl ?_
              refine y (ev_neqB rfl rfl Try.underlying4) rfl ?_
              refine y (ev_move rfl) rfl ?_
              refine ysplit 56 rfl (fun h170 => ?_) (fun h170 => ?_)
              · (try simp only [decide_eq_true_eq, beq_iff_eq, beq_eq_false_iff_ne, decide_eq_decide, decide_eq_false_iff_not, Bool.not_eq_true', Bool.not_eq_false', Bool.not_eq_true, Bool.not_eq_false, Bool.not_not, ne_eq, Option.isNone_some, Option.isSome_some, Option.isNone_none, Option.isSome_none] at h170)
                refine yg0 rfl rfl rfl rfl ?_
                refine yg0 rfl rfl rfl rfl ?_
                refine yg0 rfl rfl rfl rfl ?_
                refine yg0u rfl rfl rfl ?_
                refine yg0u rfl rfl rfl ?_
                refine yg0 rfl rfl rfl rfl ?_
                refine y (ev_pick1 rfl rfl) rfl ?_
                refine y (ev_move rfl) rfl ?_
                refine yg0 rfl rfl rfl rfl ?_
                refine yg0 rfl rfl rfl rfl ?_
                refine yg0 rfl rfl rfl rfl ?_
                refine yg0 rfl rfl rfl rfl ?_
                refine yg0 rfl rfl rfl rfl ?_
                refine y (ev_pick1 rfl rfl) rfl ?_
                refine ynil' (kthn (hK30 _ _ ?_))
                clear hK30
                refine ccond1 rfl ?_
                refine cseq ?_; intro K31 hK31
                refine creg ?_
                refine y (ev_assign rfl) rfl ?_
                refine ynil' (kthn (hK31 _ _ ?_))
                clear hK31
                refine cret (kthr (kbr (kthr (kthr (kbr (kthr ?_))))))
                first
                  | (exfalso; omega; done)
                  | (refine kretv Try.results3 rfl (L1 := R) (by repeat first | exact .refl | exact .nil | exact .z | apply Pk.s | refine Ge.e ?_ | apply Ge.pick | apply Ge.drop) ?_
                     exact ⟨_, ⟨by first | rfl | (simp [*]; done) | (simp [*]; omega) | simp_all, rfl⟩, by first | rfl | (simp [*]; done) | (simp [*]; omega) | simp_all⟩)
              · (try simp only [decide_eq_true_eq, beq_iff_eq, beq_eq_false_iff_ne, decide_eq_decide, decide_eq_false_iff_not, Bool.not_eq_true', Bool.not_eq_false', Bool.not_eq_true, Bool.not_eq_false, Bool.not_not, ne_eq, Option.isNone_some, Option.isSome_some, Option.isNone_none, Option.isSome_none] at h170)
                refine yg1 rfl rfl ?_
                refine y (ev_move rfl) rfl ?_
                refine yg1 rfl rfl ?_
                refine y (ev_neq rfl rfl) rfl ?_
                refine yg1 rfl rfl ?_
                refine y (ev_move rfl) rfl ?_
                refine ysplit 59 rfl (fun h178 => ?_) (fun h178 => ?_)
                · (try simp only [decide_eq_true_eq, beq_iff_eq, beq_eq_false_iff_ne, decide_eq_decide, decide_eq_false_iff_not, Bool.not_eq_true', Bool.not_eq_false', Bool.not_eq_true, Bool.not_eq_false, Bool.not_not, ne_eq, Option.isNone_some, Option.isSome_some, Option.isNone_none, Option.isSome_none] at h178)
                  refine yg1 rfl rfl ?_
                  refine y (ev_move rfl) rfl ?_
                  refine yg1 rfl rfl ?_
                  refine y (ev_neq rfl rfl) rfl ?_
                  refine yg1 rfl rfl ?_
                  refine y (ev_pick1 rfl rfl) rfl ?_
                  refine y (ev_pick0 rfl rfl) rfl ?_
                  refine y (ev_move rfl) rfl ?_
                  refine ysplit 64 rfl (fun h184 => ?_) (fun h184 => ?_)
                  · (try simp only [decide_eq_true_eq, beq_iff_eq, beq_eq_false_iff_ne, decide_eq_decide, decide_eq_false_iff_not, Bool.not_eq_true', Bool.not_eq_false', Bool.not_eq_true, Bool.not_eq_false, Bool.not_not, ne_eq, Option.isNone_some, Option.isSome_some, Option.isNone_none, Option.isSome_none] at h184)
                    refine yg0 rfl rfl rfl rfl ?_
                    refine yg0 rfl rfl rfl rfl ?_
                    refine yg0 rfl rfl rfl rfl ?_
                    refine yg0 rfl rfl rfl rfl ?_
                    refine yg0 rfl rfl rfl rfl ?_
                    refine y (ev_pick1 rfl rfl) rfl ?_
                    refine ynil' (kthn (hK30 _ _ ?_))
                    clear hK30
                    refine ccond1 rfl ?_
                    refine cseq ?_; intro K32 hK32
                    refine creg ?_
                    refine y (ev_assign rfl) rfl ?_
                    refine ynil' (kthn (hK32 _ _ ?_))
                    clear hK32
                    refine cret (kthr (kbr (kthr (kthr (kbr (kthr ?_))))))
                    first
                      | (exfalso; omega; done)
                      | (refine kretv Try.results3 rfl (L1 := R) (by repeat first | exact .refl | exact .nil | exact .z | apply Pk.s | refine Ge.e ?_ | apply Ge.pick | apply Ge.drop) ?_
                         exact ⟨_, ⟨by first | rfl | (simp [*]; done) | (simp [*]; omega) | simp_all, rfl⟩, by first | rfl | (simp [*]; done) | (simp [*]; omega) | simp_all⟩)
                  · (try simp only [decide_eq_true_eq, beq_iff_eq, beq_eq_false_iff_ne, decide_eq_decide, decide_eq_false_iff_not, Bool.not_eq_true', Bool.not_eq_false', Bool.not_eq_true, Bool.not_eq_false, Bool.not_not, ne_eq, Option.isNone_some, Option.isSome_some, Option.isNone_none, Option.isSome_none] at h184)
                    refine yg1 rfl rfl ?_
                    refine y (ev_move rfl) rfl ?_
                    refine yg1 rfl rfl ?_
                    refine ycall (secDead) rfl Try.call19 (by repeat first | exact .nil | exact .z | apply Pk.s | apply Tk.cons) rfl ?_
                    rintro v L' ⟨rfl, rfl⟩
                    rw [hs3]
                    refine yg1 rfl rfl ?_
                    refine y (ev_move rfl) rfl ?_
                    refine yg1 rfl rfl ?_
                    refine y (ev_leq rfl rfl) rfl ?_
                    refine yg1 rfl rfl ?_
                    refine y (ev_neqB rfl rfl Try.underlying4) rfl ?_
                    refine y (ev_pick0 rfl rfl) rfl ?_
                    refine ynil' (kthn (hK30 _ _ ?_))
                    clear hK30
                    refine ccond rfl (fun h193 => ?_) (fun h193 => ?_)
                    · (try simp only [decide_eq_true_eq, beq_iff_eq, beq_eq_false_iff_ne, decide_eq_decide, decide_eq_false_iff_not, Bool.not_eq_true', Bool.not_eq_false', Bool.not_eq_true, Bool.not_eq_false, Bool.not_not, ne_eq, Option.isNone_some, Option.isSome_some, Option.isNone_none, Option.isSome_none] at h193)
                      refine cseq ?_; intro K33 hK33
                      refine creg ?_
                      refine y (ev_assign rfl) rfl ?_
                      refine ynil' (kthn (hK33 _ _ ?_))
                      clear hK33
                      refine cret (kthr (kbr (kthr (kthr (kbr (kthr ?_))))))
                      first
                        | (exfalso; omega; done)
                        | (refine kretv Try.results3 rfl (L1 := R) (by repeat first | exact .refl | exact .nil | exact .z | apply Pk.s | refine Ge.e ?_ | apply Ge.pick | apply Ge.drop) ?_
                           exact ⟨_, ⟨by first | rfl | (simp [*]; done) | (simp [*]; omega) | simp_all, rfl⟩, by first | rfl | (simp [*]; done) | (simp [*]; omega) | simp_all⟩)
                    · (try simp only [decide_eq_true_eq, beq_iff_eq, beq_eq_false_iff_ne, decide_eq_decide, decide_eq_false_iff_not, Bool.not_eq_true', Bool.not_eq_false', Bool.not_eq_true, Bool.not_eq_false, Bool.not_not, ne_eq, Option.isNone_some, Option.isSome_some, Option.isNone_none, Option.isSome_none] at h193)
                      refine cskip' (kthn (hK29 _ _ ?_))
                      clear hK29
                      refine creg ?_
                      refine y (ev_move rfl) rfl ?_
                      refine y (ev_sub rfl rfl) rfl ?_
                      rw [wr (by omega) (by omega), show fu % 60 - (k : Int) - 1 = fu % 60 - ((k + 1 : Nat) : Int) by omega]
                      refine y (ev_assign rfl) rfl ?_
                      refine ynil' (kbn (kthn (hK15 _ _ ?_)))
                      clear hK15
                      refine creg ?_
                      refine y (ev_move rfl) rfl ?_
                      refine y (ev_add rfl rfl) rfl ?_
                      rw [show IntKind.i64.wrap ((k:Int) + 1) = ((k+1 : Nat) : Int) by rw [wr (by omega) (by omega)]; rfl]
                      refine y (ev_assign rfl) rfl ?_
                      refine ynil' (kthn ?_)
                      first
                        | (exfalso; omega; done)
                        | exact hL1 (k + 1, _) ⟨hD', hn', by dsimp only; omega, by dsimp only; omega, by rw [show fu % 60 - ((k + 1 : Nat) : Int) = fu % 60 - (k : Int) - 1 by omega]; exact hs4⟩ (by dsimp only; omega) _ _ (by repeat first | exact sub_nil | refine sub_cons rfl ?_ | refine sub_cons' rfl (by simp) ?_) (by repeat first | exact .refl | exact .nil | exact .z | apply Pk.s | refine Ge.e ?_ | apply Ge.pick | apply Ge.drop)
                · (try simp only [decide_eq_true_eq, beq_iff_eq, beq_eq_false_iff_ne, decide_eq_decide, decide_eq_false_iff_not, Bool.not_eq_true', Bool.not_eq_false', Bool.not_eq_true, Bool.not_eq_false, Bool.not_not, ne_eq, Option.isNone_some, Option.isSome_some, Option.isNone_none, Option.isSome_none] at h178)
                  refine yg0 rfl rfl rfl rfl ?_
                  refine yg0 rfl rfl rfl rfl ?_
                  refine yg1 rfl rfl ?_
                  refine y (ev_pick0 rfl rfl) rfl ?_
                  refine y (ev_pick0 rfl rfl) rfl ?_
                  refine y (ev_move rfl) rfl ?_
                  refine yg1 rfl rfl ?_
                  refine y (ev_move rfl) rfl ?_
                  refine yg1 rfl rfl ?_
                  refine ycall (secDead) rfl Try.call19 (by repeat first | exact .nil | exact .z | apply Pk.s | apply Tk.cons) rfl ?_
                  rintro v L' ⟨rfl, rfl⟩
                  rw [hs3]
                  refine yg1 rfl rfl ?_
                  refine y (ev_move rfl) rfl ?_
                  refine yg1 rfl rfl ?_
                  refine y (ev_leq rfl rfl) rfl ?_
                  refine yg1 rfl rfl ?_
                  refine y (ev_neqB rfl rfl Try.underlying4) rfl ?_
                  refine y (ev_pick0 rfl rfl) rfl ?_
                  refine ynil' (kthn (hK30 _ _ ?_))
                  clear hK30
                  refine ccond rfl (fun h210 => ?_) (fun h210 => ?_)
                  · (try simp only [decide_eq_true_eq, beq_iff_eq, beq_eq_false_iff_ne, decide_eq_decide, decide_eq_false_iff_not, Bool.not_eq_true', Bool.not_eq_false', Bool.not_eq_true, Bool.not_eq_false, Bool.not_not, ne_eq, Option.isNone_some, Option.isSome_some, Option.isNone_none, Option.isSome_none] at h210)
                    refine cseq ?_; intro K34 hK34
                    refine creg ?_
                    refine y (ev_assign rfl) rfl ?_
                    refine ynil' (kthn (hK34 _ _ ?_))
                    clear hK34
                    refine cret (kthr (kbr (kthr (kthr (kbr (kthr ?_))))))
                    first
                      | (exfalso; omega; done)
                      | (refine kretv Try.results3 rfl (L1 := R) (by repeat first | exact .refl | exact .nil | exact .z | apply Pk.s | refine Ge.e ?_ | apply Ge.pick | apply Ge.drop) ?_
                         exact ⟨_, ⟨by first | rfl | (simp [*]; done) | (simp [*]; omega) | simp_all, rfl⟩, by first | rfl | (simp [*]; done) | (simp [*]; omega) | simp_all⟩)
                  · (try simp only [decide_eq_true_eq, beq_iff_eq, beq_eq_false_iff_ne, decide_eq_decide, decide_eq_false_iff_not, Bool.not_eq_true', Bool.not_eq_false', Bool.not_eq_true, Bool.not_eq_false, Bool.not_not, ne_eq, Option.isNone_some, Option.isSome_some, Option.isNone_none, Option.isSome_none] at h210)
                    refine cskip' (kthn (hK29 _ _ ?_))
                    clear hK29
                    refine creg ?_
                    refine y (ev_move rfl) rfl ?_
                    refine y (ev_sub rfl rfl) rfl ?_
                    rw [wr (by omega) (by omega), show fu % 60 - (k : Int) - 1 = fu % 60 - ((k + 1 : Nat) : Int) by omega]
                    refine y (ev_assign rfl) rfl ?_
                    refine ynil' (kbn (kthn (hK15 _ _ ?_)))
                    clear hK15
                    refine creg ?_
                    refine y (ev_move rfl) rfl ?_
                    refine y (ev_add rfl rfl) rfl ?_
                    rw [show IntKind.i64.wrap ((k:Int) + 1) = ((k+1 : Nat) : Int) by rw [wr (by omega) (by omega)]; rfl]
                    refine y (ev_assign rfl) rfl ?_
                    refine ynil' (kthn ?_)
                    first
                      | (exfalso; omega; done)
                      | exact hL1 (k + 1, _) ⟨hD', hn', by dsimp only; omega, by dsimp only; omega, by rw [show fu % 60 - ((k + 1 : Nat) : Int) = fu % 60 - (k : Int) - 1 by omega]; exact hs4⟩ (by dsimp only; omega) _ _ (by repeat first | exact sub_nil | refine sub_cons rfl ?_ | refine sub_cons' rfl (by simp) ?_) (by repeat first | exact .refl | exact .nil | exact .z | apply Pk.s | refine Ge.e ?_ | apply Ge.pick | apply Ge.drop)
        · (try simp only [decide_eq_true_eq, beq_iff_eq, beq_eq_false_iff_ne, decide_eq_decide, decide_eq_false_iff_not, Bool.not_eq_true', Bool.not_eq_false', Bool.not_eq_true, Bool.not_eq_false, Bool.not_not, ne_eq, Option.isNone_some, Option.isSome_some, Option.isNone_none, Option.isSome_none] at h81)
          refine cexit (kthx (kthx (kbx (kthn (hK11 _ _ ?_)))))
          clear hK11
          refine cseq ?_; intro K35 hK35
          refine creg ?_
          refine y (ev_assign rfl) rfl ?_
          refine ynil' (kthn (hK35 _ _ ?_))
          clear hK35
          refine cret ?_
          first
            | (exfalso; omega; done)
            | (refine kretv Try.results3 rfl (L1 := R) (by repeat first | exact .refl | exact .nil | exact .z | apply Pk.s | refine Ge.e ?_ | apply Ge.pick | apply Ge.drop) ?_
               exact ⟨_, ⟨by first | rfl | (simp [*]; done) | (simp [*]; omega) | simp_all, rfl⟩, by first | rfl | (simp [*]; done) | (simp [*]; omega) | simp_all⟩)
      · (try simp only [decide_eq_true_eq, beq_iff_eq, beq_eq_false_iff_ne, decide_eq_decide, decide_eq_false_iff_not, Bool.not_eq_true', Bool.not_eq_false', Bool.not_eq_true, Bool.not_eq_false, Bool.not_not, ne_eq, Option.isNone_some, Option.isSome_some, Option.isNone_none, Option.isSome_none] at h77)
        refine yg0 rfl rfl rfl rfl ?_
        refine yg0 rfl rfl rfl rfl ?_
        refine y (ev_pick0 rfl rfl) rfl ?_
        refine ynil' (kthn (hK14 _ _ ?_))
        clear hK14
        refine ccond0 rfl ?_
        refine cexit (kthx (kthx (kbx (kthn (hK11 _ _ ?_)))))
        clear hK11
        refine cseq ?_; intro K36 hK36
        refine creg ?_
        refine y (ev_assign rfl) rfl ?_
        refine ynil' (kthn (hK36 _ _ ?_))
        clear hK36
        refine cret ?_
        first
          | (exfalso; omega; done)
          | (refine kretv Try.results3 rfl (L1 := R) (by repeat first | exact .refl | exact .nil | exact .z | apply Pk.s | refine Ge.e ?_ | apply Ge.pick | apply Ge.drop) ?_
             exact ⟨_, ⟨by first | rfl | (simp [*]; done) | (simp [*]; omega) | simp_all, rfl⟩, by first | rfl | (simp [*]; done) | (simp [*]; omega) | simp_all⟩)
end W
end Go.Proofs
