/- A part of the proof: contracts and plain lemmas, each without conditions beyond those that it names. -/
import Derived.Test.YtnedokioglfipaaS4
import Derived.Test.YtnedokioglfipaaSecA
set_option linter.unusedVariables false
set_option linter.unusedSimpArgs false
set_option linter.constructorNameAsVariable false
namespace Go.Proofs
open Go Go.Sl
namespace W
set_option linter.unusedVariables false
theorem secReadOk [Env] {R : List Seg} {q : Q3} {D : Dev} {i : Int} (hD : D.ok) (h0 : D.has i = 0) : Con Try.prog 30 [dp q, i64 i] [dev q D] R
    (fun v L' => ∃ b cap sp, v = .tuple #[.slice (some ⟨b, 0, none⟩) 144 cap, i64 0] ∧ 144 ≤ cap ∧ L' = [sc b (bytesV (D.sec i) ++ sp) 5, dev q D]) := by
  refine (secRead hD).mono ?_
  rintro v L (⟨h1, _⟩ | ⟨_, s, rfl, h2, rfl⟩)
  · exact absurd h0 h1
  · obtain ⟨b, cap, sp, rfl, hc⟩ := sv_some h2 (by omega)
    exact ⟨b, cap, sp, rfl, hc, rfl⟩
theorem awN [Env] {R : List Seg} : Con Try.prog 15 [i64 2] [] R (fun v L' => ∃ q, v = dp q ∧ L' = [dev q aD0]) := secNew (n := 2) (by decide)
theorem awW1 [Env] {R : List Seg} {q : Q3} {bv : Value} (hb : RdB R bv [97, 98]) : Con Try.prog 18 [dp q, i64 1, bv] [dev q aD0] R (Is (i64 0) [dev q aD1]) := aw1 ▸ secWrite aD0_ok hb
theorem awB [Env] {R : List Seg} {q : Q3} : Con Try.prog 17 [dp q] [dev q aD1] R (Is (i64 0) [dev q aD2]) := aw2 ▸ secBarrier aD1_ok
theorem awW2 [Env] {R : List Seg} {q : Q3} {bv : Value} (hb : RdB R bv [120, 121, 122]) : Con Try.prog 18 [dp q, i64 1, bv] [dev q aD2] R (Is (i64 0) [dev q aD3]) := aw3 ▸ secWrite aD2_ok hb
theorem awP [Env] {R : List Seg} {q : Q3} : Con Try.prog 33 [dp q] [dev q aD3] R (KSv 3 1 1 (intsV [1]) [dev q aD3]) := by
  have h := secPending (R := R) (q := q) aD3_ok
  rw [aw3n, aw3p] at h
  exact h
theorem awC [Env] {R : List Seg} {q : Q3} {kv : Value} (hk : RdV R kv 1 (keepsV [(2, 1)])) : Con Try.prog 25 [dp q, kv] [dev q aD3] R (Is (.tuple #[]) [dev q aD4]) := secCrash aD3_ok (ks := [(2, 1)]) hk
theorem awW3 [Env] {R : List Seg} {q : Q3} : Con Try.prog 18 [dp q, i64 0, .slice none 0 0] [dev q aD5] R (Is (i64 30) [dev q aD6]) := aw6 ▸ secWrite aD5_ok (.inl ⟨rfl, rfl⟩)
theorem awF [Env] {R : List Seg} {q : Q3} : Con Try.prog 16 [dp q, i64 0] [dev q aD4] R (Is (.tuple #[]) [dev q aD5]) := secFuse
theorem awD [Env] {R : List Seg} {q : Q3} : Con Try.prog 19 [dp q] [dev q aD6] R (Is (.bool true) [dev q aD6]) := aw6d ▸ secDead
theorem awS [Env] {R : List Seg} {q : Q3} : Con Try.prog 35 [dp q] [dev q aD6] R (Is (i64 2) [dev q aD6]) := by
  have h := secSectors (R := R) (q := q) (D := aD6)
  rw [aw6l] at h
  exact h

theorem awake [Env] {R : List Seg} : Con Try.prog 14 [] [] R (Is (.bool true) []) := by
  refine con_enter Try.func14 Try.ntmps14 rfl rfl ?_
  refine cseq ?_; intro K1 hK1
  refine creg ?_
  refine y (ev_assign rfl) rfl ?_
  refine ynil' (kthn (hK1 _ _ ?_))
  clear hK1
  refine cseq ?_; intro K2 hK2
  refine creg ?_
  refine ycall (awN) rfl Try.call15 (by repeat first | exact .nil | exact .z | apply Pk.s | apply Tk.cons) rfl ?_
  rintro v L' ⟨q9, rfl, rfl⟩
  refine y (ev_assign rfl) rfl ?_
  refine ynil' (kthn (hK2 _ _ ?_))
  clear hK2
  refine cseq ?_; intro K3 hK3
  refine cseq ?_; intro K4 hK4
  refine creg ?_
  refine y (ev_move rfl) rfl ?_
  refine y (ev_eqlPnil rfl rfl Try.underlying24) rfl ?_
  refine y (ev_move rfl) rfl ?_
  refine ysplit 12 rfl (fun h7 => ?_) (fun h7 => ?_)
  · (try simp only [decide_eq_true_eq, beq_iff_eq, beq_eq_false_iff_ne, decide_eq_decide, decide_eq_false_iff_not, Bool.not_eq_true', Bool.not_eq_false', Bool.not_eq_true, Bool.not_eq_false, Bool.not_not, ne_eq, Option.isNone_some, Option.isSome_some, Option.isNone_none, Option.isSome_none] at h7)
    refine yg0 rfl rfl rfl rfl ?_
    refine yg0 rfl rfl rfl rfl ?_
    refine y (ev_pick1 rfl rfl) rfl ?_
    refine ynil' (kthn (hK4 _ _ ?_))
    clear hK4
    refine ccond1 rfl ?_
    refine cseq ?_; intro K5 hK5
    refine creg ?_
    refine y (ev_assign rfl) rfl ?_
    refine ynil' (kthn (hK5 _ _ ?_))
    clear hK5
    refine cret (kthr ?_)
    first
      | (exfalso; omega; done)
      | (refine kretv Try.results14 rfl (L1 := R) (by repeat first | exact .refl | exact .nil | exact .z | apply Pk.s | refine Ge.e ?_ | apply Ge.pick | apply Ge.drop) ?_
         exact ⟨_, ⟨by first | rfl | (simp [*]; done) | (simp [*]; omega) | simp_all, rfl⟩, by first | rfl | (simp [*]; done) | (simp [*]; omega) | simp_all⟩)
  · (try simp only [decide_eq_true_eq, beq_iff_eq, beq_eq_false_iff_ne, decide_eq_decide, decide_eq_false_iff_not, Bool.not_eq_true', Bool.not_eq_false', Bool.not_eq_true, Bool.not_eq_false, Bool.not_not, ne_eq, Option.isNone_some, Option.isSome_some, Option.isNone_none, Option.isSome_none] at h7)
    refine yg1 rfl rfl ?_
    refine ycall (secNewNil (by decide)) rfl Try.call15 (by repeat first | exact .nil | exact .z | apply Pk.s | apply Tk.cons) rfl ?_
    rintro v L' ⟨rfl, rfl⟩
    refine yg1 rfl rfl ?_
    refine y (ev_neqPnil rfl rfl Try.underlying24) rfl ?_
    refine y (ev_pick0 rfl rfl) rfl ?_
    refine ynil' (kthn (hK4 _ _ ?_))
    clear hK4
    refine ccond rfl (fun h13 => ?_) (fun h13 => ?_)
    · (try simp only [decide_eq_true_eq, beq_iff_eq, beq_eq_false_iff_ne, decide_eq_decide, decide_eq_false_iff_not, Bool.not_eq_true', Bool.not_eq_false', Bool.not_eq_true, Bool.not_eq_false, Bool.not_not, ne_eq, Option.isNone_some, Option.isSome_some, Option.isNone_none, Option.isSome_none] at h13)
      refine cseq ?_; intro K6 hK6
      refine creg ?_
      refine y (ev_assign rfl) rfl ?_
      refine ynil' (kthn (hK6 _ _ ?_))
      clear hK6
      refine cret (kthr ?_)
      first
        | (exfalso; omega; done)
        | (refine kretv Try.results14 rfl (L1 := R) (by repeat first | exact .refl | exact .nil | exact .z | apply Pk.s | refine Ge.e ?_ | apply Ge.pick | apply Ge.drop) ?_
           exact ⟨_, ⟨by first | rfl | (simp [*]; done) | (simp [*]; omega) | simp_all, rfl⟩, by first | rfl | (simp [*]; done) | (simp [*]; omega) | simp_all⟩)
    · (try simp only [decide_eq_true_eq, beq_iff_eq, beq_eq_false_iff_ne, decide_eq_decide, decide_eq_false_iff_not, Bool.not_eq_true', Bool.not_eq_false', Bool.not_eq_true, Bool.not_eq_false, Bool.not_not, ne_eq, Option.isNone_some, Option.isSome_some, Option.isNone_none, Option.isSome_none] at h13)
      refine cskip' (kthn (hK3 _ _ ?_))
      clear hK3
      refine cseq ?_; intro K7 hK7
      refine creg ?_
      refine y (ev_move rfl) rfl ?_
      refine ya (ac_bsliceR rfl Try.underlying27 Try.sizeOf5 Try.zeroValue5 rfl rfl rfl rfl ⟨⟨_, _, rfl, (by first | rfl | simp), (by first | decide | simp)⟩, ⟨⟨_, _, rfl, (by first | rfl | simp), (by first | decide | simp)⟩, trivial⟩⟩ (by dsimp [fillL, splice, vcells, reps] <;> rfl)) rfl ?_
      rintro v L' ⟨b17, rfl, rfl⟩
      refine ya (ac_mark rfl Try.underlying27 Try.underlying5 (by repeat first | exact .z | apply In.s) (fun _ => (by repeat first | exact .z | apply Rp.s))) rfl ?_
      rintro v L' ⟨rfl, fr18, rfl⟩
      refine ycall (awW1 ?rd18) rfl Try.call18 (by repeat first | exact .nil | exact .z | apply Pk.s | apply Tk.cons) rfl ?_
      case rd18 => exact rdB_in (by repeat first | exact .z | apply In.s) rfl rfl
      rintro v L' ⟨rfl, rfl⟩
      refine y (ev_assign rfl) rfl ?_
      refine ynil' (kthn (hK7 _ _ ?_))
      clear hK7
      refine cseq ?_; intro K8 hK8
      refine creg ?_
      refine y (ev_move rfl) rfl ?_
      refine ycall (awB) rfl Try.call17 (by repeat first | exact .nil | exact .z | apply Pk.s | apply Tk.cons) rfl ?_
      rintro v L' ⟨rfl, rfl⟩
      refine y (ev_assign rfl) rfl ?_
      refine ynil' (kthn (hK8 _ _ ?_))
      clear hK8
      refine cseq ?_; intro K9 hK9
      refine creg ?_
      refine y (ev_move rfl) rfl ?_
      refine ya (ac_bsliceR rfl Try.underlying27 Try.sizeOf5 Try.zeroValue5 rfl rfl rfl rfl ⟨⟨_, _, rfl, (by first | rfl | simp), (by first | decide | simp)⟩, ⟨⟨_, _, rfl, (by first | rfl | simp), (by first | decide | simp)⟩, ⟨⟨_, _, rfl, (by first | rfl | simp), (by first | decide | simp)⟩, trivial⟩⟩⟩ (by dsimp [fillL, splice, vcells, reps] <;> rfl)) rfl ?_
      rintro v L' ⟨b23, rfl, rfl⟩
      refine ya (ac_mark rfl Try.underlying27 Try.underlying5 (by repeat first | exact .z | apply In.s) (fun _ => (by repeat first | exact .z | apply Rp.s))) rfl ?_
      rintro v L' ⟨rfl, fr24, rfl⟩
      refine ycall (awW2 ?rd26) rfl Try.call18 (by repeat first | exact .nil | exact .z | apply Pk.s | apply Tk.cons) rfl ?_
      case rd26 => exact rdB_in (by repeat first | exact .z | apply In.s) rfl rfl
      rintro v L' ⟨rfl, rfl⟩
      refine y (ev_assign rfl) rfl ?_
      refine ynil' (kthn (hK9 _ _ ?_))
      clear hK9
      refine cseq ?_; intro K10 hK10
      refine creg ?_
      refine y (ev_move rfl) rfl ?_
      refine ycall (awP) rfl Try.call33 (by repeat first | exact .nil | exact .z | apply Pk.s | apply Tk.cons) rfl ?_
      rintro v L' ⟨s27, rfl, ok27, rfl⟩
      have hp := rdV_sv (L := [svSeg s27 3 (intsV [1])]) .z ok27
      refine y (ev_assign rfl) rfl ?_
      refine ynil' (kthn (hK10 _ _ ?_))
      clear hK10
      refine cseq ?_; intro K11 hK11
      refine creg ?_
      refine y (ev_move rfl) rfl ?_
      refine y (ev_build (zs := _) rfl Try.underlying76 Try.zeroValue76 rfl (.cons Try.sizeOf3 (.cons Try.sizeOf3 .nil)) ⟨⟨_, _, rfl, (by first | rfl | simp), (by first | decide | simp)⟩, ⟨⟨_, _, rfl, (by first | rfl | simp), (by first | decide | simp)⟩, trivial⟩⟩ (by dsimp [fillL, splice, vcells] <;> rfl)) rfl ?_
      refine ya (ac_bsliceR rfl Try.underlying28 Try.sizeOf76 Try.zeroValue76 rfl rfl rfl rfl ⟨⟨_, _, rfl, (by first | rfl | simp), (by first | decide | simp)⟩, trivial⟩ (by dsimp [fillL, splice, vcells, reps] <;> rfl)) rfl ?_
      rintro v L' ⟨b30, rfl, rfl⟩
      refine ycall (awC ?rv34) rfl Try.call25 (by repeat first | exact .nil | exact .z | apply Pk.s | apply Tk.cons) rfl ?_
      case rv34 => exact rdV_in (by repeat first | exact .z | apply In.s) rfl rfl
      rintro v L' ⟨rfl, rfl⟩
      refine ynil' (kthn (hK11 _ _ ?_))
      clear hK11
      refine cseq ?_; intro K12 hK12
      refine creg ?_
      refine y (ev_move rfl) rfl ?_
      refine ycall (secReadOk aD4_ok aw4h) rfl Try.call30 (by repeat first | exact .nil | exact .z | apply Pk.s | apply Tk.cons) rfl ?_
      rintro v L' ⟨b34, cap34, sp34, rfl, hc34, rfl⟩
      refine y (ev_move rfl) rfl ?_
      refine y (ev_extract rfl rfl) rfl ?_
      refine y (ev_extract rfl rfl) rfl ?_
      refine y (ev_assign rfl) rfl ?_
      refine y (ev_assign rfl) rfl ?_
      refine ynil' (kthn (hK12 _ _ ?_))
      clear hK12
      refine cseq ?_; intro K13 hK13
      refine creg ?_
      refine y (ev_move rfl) rfl ?_
      refine ycall (awF) rfl Try.call16 (by repeat first | exact .nil | exact .z | apply Pk.s | apply Tk.cons) rfl ?_
      rintro v L' ⟨rfl, rfl⟩
      refine ynil' (kthn (hK13 _ _ ?_))
      clear hK13
      refine cseq ?_; intro K14 hK14
      refine creg ?_
      refine y (ev_move rfl) rfl ?_
      refine ycall (awW3) rfl Try.call18 (by repeat first | exact .nil | exact .z | apply Pk.s | apply Tk.cons) rfl ?_
      rintro v L' ⟨rfl, rfl⟩
      refine y (ev_assign rfl) rfl ?_
      refine ynil' (kthn (hK14 _ _ ?_))
      clear hK14
      refine cseq ?_; intro K15 hK15
      refine creg ?_
      refine y (ev_move rfl) rfl ?_
      refine y (ev_eql rfl rfl) rfl ?_
      refine y (ev_move rfl) rfl ?_
      refine ysplit 43 rfl (fun h50 => ?_) (fun h50 => ?_)
      · (try simp only [decide_eq_true_eq, beq_iff_eq, beq_eq_false_iff_ne, decide_eq_decide, decide_eq_false_iff_not, Bool.not_eq_true', Bool.not_eq_false', Bool.not_eq_true, Bool.not_eq_false, Bool.not_not, ne_eq, Option.isNone_some, Option.isSome_some, Option.isNone_none, Option.isSome_none] at h50)
        refine yg1 rfl rfl ?_
        refine y (ev_move rfl) rfl ?_
        refine yg1 rfl rfl ?_
        refine y (ev_eql rfl rfl) rfl ?_
        refine y (ev_pick1 rfl rfl) rfl ?_
        refine y (ev_move rfl) rfl ?_
        refine ysplit 47 rfl (fun h55 => ?_) (fun h55 => ?_)
        · (try simp only [decide_eq_true_eq, beq_iff_eq, beq_eq_false_iff_ne, decide_eq_decide, decide_eq_false_iff_not, Bool.not_eq_true', Bool.not_eq_false', Bool.not_eq_true, Bool.not_eq_false, Bool.not_not, ne_eq, Option.isNone_some, Option.isSome_some, Option.isNone_none, Option.isSome_none] at h55)
          refine yg1 rfl rfl ?_
          refine y (ev_move rfl) rfl ?_
          refine yg1 rfl rfl ?_
          refine y (ev_eql rfl rfl) rfl ?_
          refine y (ev_pick1 rfl rfl) rfl ?_
          refine y (ev_move rfl) rfl ?_
          refine ysplit 51 rfl (fun h60 => ?_) (fun h60 => ?_)
          · (try simp only [decide_eq_true_eq, beq_iff_eq, beq_eq_false_iff_ne, decide_eq_decide, decide_eq_false_iff_not, Bool.not_eq_true', Bool.not_eq_false', Bool.not_eq_true, Bool.not_eq_false, Bool.not_not, ne_eq, Option.isNone_some, Option.isSome_some, Option.isNone_none, Option.isSome_none] at h60)
            refine yg1 rfl rfl ?_
            refine y (ev_move rfl) rfl ?_
            refine yg1 rfl rfl ?_
            first
              | refine y (ev_len rfl Try.underlying42) rfl ?_
              | refine y (ev_lenSv rfl Try.underlying42 (by assumption)) rfl ?_
              | refine y (ev_lenV rfl Try.underlying42 (RdV.lenVal (by assumption))) rfl ?_
              | refine y (ev_lenV rfl Try.underlying42 (RdB.lenVal (by assumption))) rfl ?_
            refine yg1 rfl rfl ?_
            refine y (ev_eql rfl rfl) rfl ?_
            refine y (ev_pick1 rfl rfl) rfl ?_
            refine y (ev_move rfl) rfl ?_
            refine ysplit 56 rfl (fun h66 => ?_) (fun h66 => ?_)
            · (try simp only [decide_eq_true_eq, beq_iff_eq, beq_eq_false_iff_ne, decide_eq_decide, decide_eq_false_iff_not, Bool.not_eq_true', Bool.not_eq_false', Bool.not_eq_true, Bool.not_eq_false, Bool.not_not, ne_eq, Option.isNone_some, Option.isSome_some, Option.isNone_none, Option.isSome_none] at h66)
              refine yg1 rfl rfl ?_
              refine y (ev_move rfl) rfl ?_
              refine yg1 rfl rfl ?_
              first
                | refine y (ev_ixAddr rfl rfl Try.underlying42 Try.sizeOf3 (by omega) (by omega)) rfl ?_
                | refine y (ev_ixV (by assumption) rfl rfl Try.underlying42 Try.sizeOf3 (by omega) (by omega)) rfl ?_
              refine yg1 rfl rfl ?_
              refine y (ev_loadV 0 hp (by repeat first | exact .refl | exact .nil | exact .z | apply Pk.s | refine Ge.e ?_ | apply Ge.pick | apply Ge.drop) rfl Try.isAgg3 (by simp) rfl) rfl ?_
              refine yg1 rfl rfl ?_
              refine y (ev_eql rfl rfl) rfl ?_
              refine y (ev_pick1 rfl rfl) rfl ?_
              refine y (ev_move rfl) rfl ?_
              refine ysplit 62 rfl (fun h73 => ?_) (fun h73 => ?_)
              · (try simp only [decide_eq_true_eq, beq_iff_eq, beq_eq_false_iff_ne, decide_eq_decide, decide_eq_false_iff_not, Bool.not_eq_true', Bool.not_eq_false', Bool.not_eq_true, Bool.not_eq_false, Bool.not_not, ne_eq, Option.isNone_some, Option.isSome_some, Option.isNone_none, Option.isSome_none] at h73)
                refine yg1 rfl rfl ?_
                refine y (ev_move rfl) rfl ?_
                refine yg1 rfl rfl ?_
                first
                  | refine y (ev_len rfl Try.underlying27) rfl ?_
                  | refine y (ev_lenSv rfl Try.underlying27 (by assumption)) rfl ?_
                  | refine y (ev_lenV rfl Try.underlying27 (RdV.lenVal (by assumption))) rfl ?_
                  | refine y (ev_lenV rfl Try.underlying27 (RdB.lenVal (by assumption))) rfl ?_
                refine yg1 rfl rfl ?_
                refine y (ev_eql rfl rfl) rfl ?_
                refine y (ev_pick1 rfl rfl) rfl ?_
                refine y (ev_move rfl) rfl ?_
                refine ysplit 67 rfl (fun h79 => ?_) (fun h79 => ?_)
                · (try simp only [decide_eq_true_eq, beq_iff_eq, beq_eq_false_iff_ne, decide_eq_decide, decide_eq_false_iff_not, Bool.not_eq_true', Bool.not_eq_false', Bool.not_eq_true, Bool.not_eq_false, Bool.not_not, ne_eq, Option.isNone_some, Option.isSome_some, Option.isNone_none, Option.isSome_none] at h79)
                  refine yg1 rfl rfl ?_
                  refine y (ev_move rfl) rfl ?_
                  refine yg1 rfl rfl ?_
                  refine y (ev_slH rfl rfl Try.underlying27 Try.sizeOf5 (by omega) (by omega)) rfl ?_
                  refine yg1 rfl rfl ?_
                  refine y (ev_toStr (bs := [120, 98, 0]) rfl Try.underlying27 Try.underlying9 Try.underlying5 rfl (by repeat first | exact .z | apply In.s) (by rw [← aw4s, bytesV_take, List.drop_zero]; exact List.take_append_of_le_length (by simp [sec_length aD4_ok]))) rfl ?_
                  refine yg1 rfl rfl ?_
                  first
                    | refine y (ev_eqlL rfl rfl) rfl ?_
                    | refine y (ev_eqlS rfl rfl) rfl ?_
                  refine y (ev_pick1 rfl rfl) rfl ?_
                  refine y (ev_move rfl) rfl ?_
                  refine ysplit 73 rfl (fun h86 => ?_) (fun h86 => ?_)
                  · (try simp only [decide_eq_true_eq, beq_iff_eq, beq_eq_false_iff_ne, decide_eq_decide, decide_eq_false_iff_not, Bool.not_eq_true', Bool.not_eq_false', Bool.not_eq_true, Bool.not_eq_false, Bool.not_not, ne_eq, Option.isNone_some, Option.isSome_some, Option.isNone_none, Option.isSome_none] at h86)
                    refine yg1 rfl rfl ?_
                    refine y (ev_move rfl) rfl ?_
                    refine yg1 rfl rfl ?_
                    refine y (ev_eql rfl rfl) rfl ?_
                    refine y (ev_pick1 rfl rfl) rfl ?_
                    refine y (ev_move rfl) rfl ?_
                    refine ysplit 77 rfl (fun h91 => ?_) (fun h91 => ?_)
                    · (try simp only [decide_eq_true_eq, beq_iff_eq, beq_eq_false_iff_ne, decide_eq_decide, decide_eq_false_iff_not, Bool.not_eq_true', Bool.not_eq_false', Bool.not_eq_true, Bool.not_eq_false, Bool.not_not, ne_eq, Option.isNone_some, Option.isSome_some, Option.isNone_none, Option.isSome_none] at h91)
                      refine yg1 rfl rfl ?_
                      refine y (ev_move rfl) rfl ?_
                      refine yg1 rfl rfl ?_
                      refine y (ev_eql rfl rfl) rfl ?_
                      refine y (ev_pick1 rfl rfl) rfl ?_
                      refine y (ev_move rfl) rfl ?_
                      refine ysplit 81 rfl (fun h96 => ?_) (fun h96 => ?_)
                      · (try simp only [decide_eq_true_eq, beq_iff_eq, beq_eq_false_iff_ne, decide_eq_decide, decide_eq_false_iff_not, Bool.not_eq_true', Bool.not_eq_false', Bool.not_eq_true, Bool.not_eq_false, Bool.not_not, ne_eq, Option.isNone_some, Option.isSome_some, Option.isNone_none, Option.isSome_none] at h96)
                        refine yg1 rfl rfl ?_
                        refine y (ev_move rfl) rfl ?_
                        refine yg1 rfl rfl ?_
                        refine ycall (awD) rfl Try.call19 (by repeat first | exact .nil | exact .z | apply Pk.s | apply Tk.cons) rfl ?_
                        rintro v L' ⟨rfl, rfl⟩
                        refine y (ev_pick1 rfl rfl) rfl ?_
                        refine y (ev_move rfl) rfl ?_
                        refine ysplit 85 rfl (fun h101 => ?_) (fun h101 => ?_)
                        · (try simp only [decide_eq_true_eq, beq_iff_eq, beq_eq_false_iff_ne, decide_eq_decide, decide_eq_false_iff_not, Bool.not_eq_true', Bool.not_eq_false', Bool.not_eq_true, Bool.not_eq_false, Bool.not_not, ne_eq, Option.isNone_some, Option.isSome_some, Option.isNone_none, Option.isSome_none] at h101)
                          refine yg1 rfl rfl ?_
                          refine y (ev_move rfl) rfl ?_
                          refine yg1 rfl rfl ?_
                          refine ycall (awS) rfl Try.call35 (by repeat first | exact .nil | exact .z | apply Pk.s | apply Tk.cons) rfl ?_
                          rintro v L' ⟨rfl, rfl⟩
                          refine yg1 rfl rfl ?_
                          refine y (ev_eql rfl rfl) rfl ?_
                          refine y (ev_pick1 rfl rfl) rfl ?_
                          refine y (ev_assign rfl) rfl ?_
                          refine ynil' (kthn (hK15 _ _ ?_))
                          clear hK15
                          refine cret ?_
                          first
                            | (exfalso; omega; done)
                            | (refine kretv Try.results14 rfl (L1 := R) (by repeat first | exact .refl | exact .nil | exact .z | apply Pk.s | refine Ge.e ?_ | apply Ge.pick | apply Ge.drop) ?_
                               exact ⟨_, ⟨by first | rfl | (simp [*]; done) | (simp [*]; omega) | simp_all, rfl⟩, by first | rfl | (simp [*]; done) | (simp [*]; omega) | simp_all⟩)
                        · (try simp only [decide_eq_true_eq, beq_iff_eq, beq_eq_false_iff_ne, decide_eq_decide, decide_eq_false_iff_not, Bool.not_eq_true', Bool.not_eq_false', Bool.not_eq_true, Bool.not_eq_false, Bool.not_not, ne_eq, Option.isNone_some, Option.isSome_some, Option.isNone_none, Option.isSome_none] at h101)
                          refine yg0 rfl rfl rfl rfl ?_
                          refine yg0 rfl rfl rfl rfl ?_
                          refine yg0 rfl rfl rfl rfl ?_
                          refine y (ev_pick0 rfl rfl) rfl ?_
                          refine y (ev_assign rfl) rfl ?_
                          refine ynil' (kthn (hK15 _ _ ?_))
                          clear hK15
                          refine cret ?_
                          first
                            | (exfalso; omega; done)
                            | (refine kretv Try.results14 rfl (L1 := R) (by repeat first | exact .refl | exact .nil | exact .z | apply Pk.s | refine Ge.e ?_ | apply Ge.pick | apply Ge.drop) ?_
                               exact ⟨_, ⟨by first | rfl | (simp [*]; done) | (simp [*]; omega) | simp_all, rfl⟩, by first | rfl | (simp [*]; done) | (simp [*]; omega) | simp_all⟩)
                      · (try simp only [decide_eq_true_eq, beq_iff_eq, beq_eq_false_iff_ne, decide_eq_decide, decide_eq_false_iff_not, Bool.not_eq_true', Bool.not_eq_false', Bool.not_eq_true, Bool.not_eq_false, Bool.not_not, ne_eq, Option.isNone_some, Option.isSome_some, Option.isNone_none, Option.isSome_none] at h96)
                        refine yg0 rfl rfl rfl rfl ?_
                        refine yg0 rfl rfl rfl rfl ?_
                        refine y (ev_pick0 rfl rfl) rfl ?_
                        refine y (ev_move rfl) rfl ?_
                        refine yg0 rfl rfl rfl rfl ?_
                        refine yg0 rfl rfl rfl rfl ?_
                        refine yg0 rfl rfl rfl rfl ?_
                        refine y (ev_pick0 rfl rfl) rfl ?_
                        refine y (ev_assign rfl) rfl ?_
                        refine ynil' (kthn (hK15 _ _ ?_))
                        clear hK15
                        refine cret ?_
                        first
                          | (exfalso; omega; done)
                          | (refine kretv Try.results14 rfl (L1 := R) (by repeat first | exact .refl | exact .nil | exact .z | apply Pk.s | refine Ge.e ?_ | apply Ge.pick | apply Ge.drop) ?_
                             exact ⟨_, ⟨by first | rfl | (simp [*]; done) | (simp [*]; omega) | simp_all, rfl⟩, by first | rfl | (simp [*]; done) | (simp [*]; omega) | simp_all⟩)
                    · (try simp only [decide_eq_true_eq, beq_iff_eq, beq_eq_false_iff_ne, decide_eq_decide, decide_eq_false_iff_not, Bool.not_eq_true', Bool.not_eq_false', Bool.not_eq_true, Bool.not_eq_false, Bool.not_not, ne_eq, Option.isNone_some, Option.isSome_some, Option.isNone_none, Option.isSome_none] at h91)
                      refine yg0 rfl rfl rfl rfl ?_
                      refine yg0 rfl rfl rfl rfl ?_
                      refine y (ev_pick0 rfl rfl) rfl ?_
                      refine y (ev_move rfl) rfl ?_
                      refine yg0 rfl rfl rfl rfl ?_
                      refine yg0 rfl rfl rfl rfl ?_
                      refine y (ev_pick0 rfl rfl) rfl ?_
                      refine y (ev_move rfl) rfl ?_
                      refine yg0 rfl rfl rfl rfl ?_
                      refine yg0 rfl rfl rfl rfl ?_
                      refine yg0 rfl rfl rfl rfl ?_
                      refine y (ev_pick0 rfl rfl) rfl ?_
                      refine y (ev_assign rfl) rfl ?_
                      refine ynil' (kthn (hK15 _ _ ?_))
                      clear hK15
                      refine cret ?_
                      first
                        | (exfalso; omega; done)
                        | (refine kretv Try.results14 rfl (L1 := R) (by repeat first | exact .refl | exact .nil | exact .z | apply Pk.s | refine Ge.e ?_ | apply Ge.pick | apply Ge.drop) ?_
                           exact ⟨_, ⟨by first | rfl | (simp [*]; done) | (simp [*]; omega) | simp_all, rfl⟩, by first | rfl | (simp [*]; done) | (simp [*]; omega) | simp_all⟩)
                  · (try simp only [decide_eq_true_eq, beq_iff_eq, beq_eq_false_iff_ne, decide_eq_decide, decide_eq_false_iff_not, Bool.not_eq_true', Bool.not_eq_false', Bool.not_eq_true, Bool.not_eq_false, Bool.not_not, ne_eq, Option.isNone_some, Option.isSome_some, Option.isNone_none, Option.isSome_none] at h86)
                    refine yg0 rfl rfl rfl rfl ?_
                    refine yg0 rfl rfl rfl rfl ?_
                    refine y (ev_pick0 rfl rfl) rfl ?_
                    refine y (ev_move rfl) rfl ?_
                    refine yg0 rfl rfl rfl rfl ?_
                    refine yg0 rfl rfl rfl rfl ?_
                    refine y (ev_pick0 rfl rfl) rfl ?_
                    refine y (ev_move rfl) rfl ?_
                    refine yg0 rfl rfl rfl rfl ?_
                    refine yg0 rfl rfl rfl rfl ?_
                    refine y (ev_pick0 rfl rfl) rfl ?_
                    refine y (ev_move rfl) rfl ?_
                    refine yg0 rfl rfl rfl rfl ?_
                    refine yg0 rfl rfl rfl rfl ?_
                    refine yg0 rfl rfl rfl rfl ?_
                    refine y (ev_pick0 rfl rfl) rfl ?_
                    refine y (ev_assign rfl) rfl ?_
                    refine ynil' (kthn (hK15 _ _ ?_))
                    clear hK15
                    refine cret ?_
                    first
                      | (exfalso; omega; done)
                      | (refine kretv Try.results14 rfl (L1 := R) (by repeat first | exact .refl | exact .nil | exact .z | apply Pk.s | refine Ge.e ?_ | apply Ge.pick | apply Ge.drop) ?_
                         exact ⟨_, ⟨by first | rfl | (simp [*]; done) | (simp [*]; omega) | simp_all, rfl⟩, by first | rfl | (simp [*]; done) | (simp [*]; omega) | simp_all⟩)
                · (try simp only [decide_eq_true_eq, beq_iff_eq, beq_eq_false_iff_ne, decide_eq_decide, decide_eq_false_iff_not, Bool.not_eq_true', Bool.not_eq_false', Bool.not_eq_true, Bool.not_eq_false, Bool.not_not, ne_eq, Option.isNone_some, Option.isSome_some, Option.isNone_none, Option.isSome_none] at h79)
                  refine yg0 rfl rfl rfl rfl ?_
                  refine yg0 rfl rfl rfl rfl ?_
                  refine yg0 rfl rfl rfl rfl ?_
                  refine yg0 rfl rfl rfl rfl ?_
                  refine y (ev_pick0 rfl rfl) rfl ?_
                  refine y (ev_move rfl) rfl ?_
                  refine yg0 rfl rfl rfl rfl ?_
                  refine yg0 rfl rfl rfl rfl ?_
                  refine y (ev_pick0 rfl rfl) rfl ?_
                  refine y (ev_move rfl) rfl ?_
                  refine yg0 rfl rfl rfl rfl ?_
                  refine yg0 rfl rfl rfl rfl ?_
                  refine y (ev_pick0 rfl rfl) rfl ?_
                  refine y (ev_move rfl) rfl ?_
                  refine yg0 rfl rfl rfl rfl ?_
                  refine yg0 rfl rfl rfl rfl ?_
                  refine y (ev_pick0 rfl rfl) rfl ?_
                  refine y (ev_move rfl) rfl ?_
                  refine yg0 rfl rfl rfl rfl ?_
                  refine yg0 rfl rfl rfl rfl ?_
                  refine yg0 rfl rfl rfl rfl ?_
                  refine y (ev_pick0 rfl rfl) rfl ?_
                  refine y (ev_assign rfl) rfl ?_
                  refine ynil' (kthn (hK15 _ _ ?_))
                  clear hK15
                  refine cret ?_
                  first
                    | (exfalso; omega; done)
                    | (refine kretv Try.results14 rfl (L1 := R) (by repeat first | exact .refl | exact .nil | exact .z | apply Pk.s | refine Ge.e ?_ | apply Ge.pick | apply Ge.drop) ?_
                       exact ⟨_, ⟨by first | rfl | (simp [*]; done) | (simp [*]; omega) | simp_all, rfl⟩, by first | rfl | (simp [*]; done) | (simp [*]; omega) | simp_all⟩)
              · (try simp only [decide_eq_true_eq, beq_iff_eq, beq_eq_false_iff_ne, decide_eq_decide, decide_eq_false_iff_not, Bool.not_eq_true', Bool.not_eq_false', Bool.not_eq_true, Bool.not_eq_false, Bool.not_not, ne_eq, Option.isNone_some, Option.isSome_some, Option.isNone_none, Option.isSome_none] at h73)
                refine yg0 rfl rfl rfl rfl ?_
                refine yg0 rfl rfl rfl rfl ?_
                refine yg0 rfl rfl rfl rfl ?_
                refine y (ev_pick0 rfl rfl) rfl ?_
                refine y (ev_move rfl) rfl ?_
                refine yg0 rfl rfl rfl rfl ?_
                refine yg0 rfl rfl rfl rfl ?_
                refine yg0 rfl rfl rfl rfl ?_
                refine yg0 rfl rfl rfl rfl ?_
                refine y (ev_pick0 rfl rfl) rfl ?_
                refine y (ev_move rfl) rfl ?_
                refine yg0 rfl rfl rfl rfl ?_
                refine yg0 rfl rfl rfl rfl ?_
                refine y (ev_pick0 rfl rfl) rfl ?_
                refine y (ev_move rfl) rfl ?_
                refine yg0 rfl rfl rfl rfl ?_
                refine yg0 rfl rfl rfl rfl ?_
                refine y (ev_pick0 rfl rfl) rfl ?_
                refine y (ev_move rfl) rfl ?_
                refine yg0 rfl rfl rfl rfl ?_
                refine yg0 rfl rfl rfl rfl ?_
                refine y (ev_pick0 rfl rfl) rfl ?_
                refine y (ev_move rfl) rfl ?_
                refine yg0 rfl rfl rfl rfl ?_
                refine yg0 rfl rfl rfl rfl ?_
                refine yg0 rfl rfl rfl rfl ?_
                refine y (ev_pick0 rfl rfl) rfl ?_
                refine y (ev_assign rfl) rfl ?_
                refine ynil' (kthn (hK15 _ _ ?_))
                clear hK15
                refine cret ?_
                first
                  | (exfalso; omega; done)
                  | (refine kretv Try.results14 rfl (L1 := R) (by repeat first | exact .refl | exact .nil | exact .z | apply Pk.s | refine Ge.e ?_ | apply Ge.pick | apply Ge.drop) ?_
                     exact ⟨_, ⟨by first | rfl | (simp [*]; done) | (simp [*]; omega) | simp_all, rfl⟩, by first | rfl | (simp [*]; done) | (simp [*]; omega) | simp_all⟩)
            · (try simp only [decide_eq_true_eq, beq_iff_eq, beq_eq_false_iff_ne, decide_eq_decide, decide_eq_false_iff_not, Bool.not_eq_true', Bool.not_eq_false', Bool.not_eq_true, Bool.not_eq_false, Bool.not_not, ne_eq, Option.isNone_some, Option.isSome_some, Option.isNone_none, Option.isSome_none] at h66)
              refine yg0 rfl rfl rfl rfl ?_
              refine yg0 rfl rfl rfl rfl ?_
              refine yg0 rfl rfl rfl rfl ?_
              refine yg0 rfl rfl rfl rfl ?_
              refine y (ev_pick0 rfl rfl) rfl ?_
              refine y (ev_move rfl) rfl ?_
              refine yg0 rfl rfl rfl rfl ?_
              refine yg0 rfl rfl rfl rfl ?_
              refine yg0 rfl rfl rfl rfl ?_
              refine y (ev_pick0 rfl rfl) rfl ?_
              refine y (ev_move rfl) rfl ?_
              refine yg0 rfl rfl rfl rfl ?_
              refine yg0 rfl rfl rfl rfl ?_
              refine yg0 rfl rfl rfl rfl ?_
              refine yg0 rfl rfl rfl rfl ?_
              refine y (ev_pick0 rfl rfl) rfl ?_
              refine y (ev_move rfl) rfl ?_
              refine yg0 rfl rfl rfl rfl ?_
              refine yg0 rfl rfl rfl rfl ?_
              refine y (ev_pick0 rfl rfl) rfl ?_
              refine y (ev_move rfl) rfl ?_
              refine yg0 rfl rfl rfl rfl ?_
              refine yg0 rfl rfl rfl rfl ?_
              refine y (ev_pick0 rfl rfl) rfl ?_
              refine y (ev_move rfl) rfl ?_
              refine yg0 rfl rfl rfl rfl ?_
              refine yg0 rfl rfl rfl rfl ?_
              refine y (ev_pick0 rfl rfl) rfl ?_
              refine y (ev_move rfl) rfl ?_
              refine yg0 rfl rfl rfl rfl ?_
              refine yg0 rfl rfl rfl rfl ?_
              refine yg0 rfl rfl rfl rfl ?_
              refine y (ev_pick0 rfl rfl) rfl ?_
              refine y (ev_assign rfl) rfl ?_
              refine ynil' (kthn (hK15 _ _ ?_))
              clear hK15
              refine cret ?_
              first
                | (exfalso; omega; done)
                | (refine kretv Try.results14 rfl (L1 := R) (by repeat first | exact .refl | exact .nil | exact .z | apply Pk.s | refine Ge.e ?_ | apply Ge.pick | apply Ge.drop) ?_
                   exact ⟨_, ⟨by first | rfl | (simp [*]; done) | (simp [*]; omega) | simp_all, rfl⟩, by first | rfl | (simp [*]; done) | (simp [*]; omega) | simp_all⟩)
          · (try simp only [decide_eq_true_eq, beq_iff_eq, beq_eq_false_iff_ne, decide_eq_decide, decide_eq_false_iff_not, Bool.not_eq_true', Bool.not_eq_false', Bool.not_eq_true, Bool.not_eq_false, Bool.not_not, ne_eq, Option.isNone_some, Option.isSome_some, Option.isNone_none, Option.isSome_none] at h60)
            refine yg0 rfl rfl rfl rfl ?_
            refine yg0 rfl rfl rfl rfl ?_
            refine yg0 rfl rfl rfl rfl ?_
            refine y (ev_pick0 rfl rfl) rfl ?_
            refine y (ev_move rfl) rfl ?_
            refine yg0 rfl rfl rfl rfl ?_
            refine yg0 rfl rfl rfl rfl ?_
            refine yg0 rfl rfl rfl rfl ?_
            refine yg0 rfl rfl rfl rfl ?_
            refine y (ev_pick0 rfl rfl) rfl ?_
            refine y (ev_move rfl) rfl ?_
            refine yg0 rfl rfl rfl rfl ?_
            refine yg0 rfl rfl rfl rfl ?_
            refine yg0 rfl rfl rfl rfl ?_
            refine y (ev_pick0 rfl rfl) rfl ?_
            refine y (ev_move rfl) rfl ?_
            refine yg0 rfl rfl rfl rfl ?_
            refine yg0 rfl rfl rfl rfl ?_
            refine yg0 rfl rfl rfl rfl ?_
            refine yg0 rfl rfl rfl rfl ?_
            refine y (ev_pick0 rfl rfl) rfl ?_
            refine y (ev_move rfl) rfl ?_
            refine yg0 rfl rfl rfl rfl ?_
            refine yg0 rfl rfl rfl rfl ?_
            refine y (ev_pick0 rfl rfl) rfl ?_
            refine y (ev_move rfl) rfl ?_
            refine yg0 rfl rfl rfl rfl ?_
            refine yg0 rfl rfl rfl rfl ?_
            refine y (ev_pick0 rfl rfl) rfl ?_
            refine y (ev_move rfl) rfl ?_
            refine yg0 rfl rfl rfl rfl ?_
            refine yg0 rfl rfl rfl rfl ?_
            refine y (ev_pick0 rfl rfl) rfl ?_
            refine y (ev_move rfl) rfl ?_
            refine yg0 rfl rfl rfl rfl ?_
            refine yg0 rfl rfl rfl rfl ?_
            refine yg0 rfl rfl rfl rfl ?_
            refine y (ev_pick0 rfl rfl) rfl ?_
            refine y (ev_assign rfl) rfl ?_
            refine ynil' (kthn (hK15 _ _ ?_))
            clear hK15
            refine cret ?_
            first
              | (exfalso; omega; done)
              | (refine kretv Try.results14 rfl (L1 := R) (by repeat first | exact .refl | exact .nil | exact .z | apply Pk.s | refine Ge.e ?_ | apply Ge.pick | apply Ge.drop) ?_
                 exact ⟨_, ⟨by first | rfl | (simp [*]; done) | (simp [*]; omega) | simp_all, rfl⟩, by first | rfl | (simp [*]; done) | (simp [*]; omega) | simp_all⟩)
        · (try simp only [decide_eq_true_eq, beq_iff_eq, beq_eq_false_iff_ne, decide_eq_decide, decide_eq_false_iff_not, Bool.not_eq_true', Bool.not_eq_false', Bool.not_eq_true, Bool.not_eq_false, Bool.not_not, ne_eq, Option.isNone_some, Option.isSome_some, Option.isNone_none, Option.isSome_none] at h55)
          refine yg0 rfl rfl rfl rfl ?_
          refine yg0 rfl rfl rfl rfl ?_
          refine y (ev_pick0 rfl rfl) rfl ?_
          refine y (ev_move rfl) rfl ?_
          refine yg0 rfl rfl rfl rfl ?_
          refine yg0 rfl rfl rfl rfl ?_
          refine yg0 rfl rfl rfl rfl ?_
          refine y (ev_pick0 rfl rfl) rfl ?_
          refine y (ev_move rfl) rfl ?_
          refine yg0 rfl rfl rfl rfl ?_
          refine yg0 rfl rfl rfl rfl ?_
          refine yg0 rfl rfl rfl rfl ?_
          refine yg0 rfl rfl rfl rfl ?_
          refine y (ev_pick0 rfl rfl) rfl ?_
          refine y (ev_move rfl) rfl ?_
          refine yg0 rfl rfl rfl rfl ?_
          refine yg0 rfl rfl rfl rfl ?_
          refine yg0 rfl rfl rfl rfl ?_
          refine y (ev_pick0 rfl rfl) rfl ?_
          refine y (ev_move rfl) rfl ?_
          refine yg0 rfl rfl rfl rfl ?_
          refine yg0 rfl rfl rfl rfl ?_
          refine yg0 rfl rfl rfl rfl ?_
          refine yg0 rfl rfl rfl rfl ?_
          refine y (ev_pick0 rfl rfl) rfl ?_
          refine y (ev_move rfl) rfl ?_
          refine yg0 rfl rfl rfl rfl ?_
          refine yg0 rfl rfl rfl rfl ?_
          refine y (ev_pick0 rfl rfl) rfl ?_
          refine y (ev_move rfl) rfl ?_
          refine yg0 rfl rfl rfl rfl ?_
          refine yg0 rfl rfl rfl rfl ?_
          refine y (ev_pick0 rfl rfl) rfl ?_
          refine y (ev_move rfl) rfl ?_
          refine yg0 rfl rfl rfl rfl ?_
          refine yg0 rfl rfl rfl rfl ?_
          refine y (ev_pick0 rfl rfl) rfl ?_
          refine y (ev_move rfl) rfl ?_
          refine yg0 rfl rfl rfl rfl ?_
          refine yg0 rfl rfl rfl rfl ?_
          refine yg0 rfl rfl rfl rfl ?_
          refine y (ev_pick0 rfl rfl) rfl ?_
          refine y (ev_assign rfl) rfl ?_
          refine ynil' (kthn (hK15 _ _ ?_))
          clear hK15
          refine cret ?_
          first
            | (exfalso; omega; done)
            | (refine kretv Try.results14 rfl (L1 := R) (by repeat first | exact .refl | exact .nil | exact .z | apply Pk.s | refine Ge.e ?_ | apply Ge.pick | apply Ge.drop) ?_
               exact ⟨_, ⟨by first | rfl | (simp [*]; done) | (simp [*]; omega) | simp_all, rfl⟩, by first | rfl | (simp [*]; done) | (simp [*]; omega) | simp_all⟩)
      · (try simp only [decide_eq_true_eq, beq_iff_eq, beq_eq_false_iff_ne, decide_eq_decide, decide_eq_false_iff_not, Bool.not_eq_true', Bool.not_eq_false', Bool.not_eq_true, Bool.not_eq_false, Bool.not_not, ne_eq, Option.isNone_some, Option.isSome_some, Option.isNone_none, Option.isSome_none] at h50)
        refine yg0 rfl rfl rfl rfl ?_
        refine yg0 rfl rfl rfl rfl ?_
        refine y (ev_pick0 rfl rfl) rfl ?_
        refine y (ev_move rfl) rfl ?_
        refine yg0 rfl rfl rfl rfl ?_
        refine yg0 rfl rfl rfl rfl ?_
        refine y (ev_pick0 rfl rfl) rfl ?_
        refine y (ev_move rfl) rfl ?_
        refine yg0 rfl rfl rfl rfl ?_
        refine yg0 rfl rfl rfl rfl ?_
        refine yg0 rfl rfl rfl rfl ?_
        refine y (ev_pick0 rfl rfl) rfl ?_
        refine y (ev_move rfl) rfl ?_
        refine yg0 rfl rfl rfl rfl ?_
        refine yg0 rfl rfl rfl rfl ?_
        refine yg0 rfl rfl rfl rfl ?_
        refine yg0 rfl rfl rfl rfl ?_
        refine y (ev_pick0 rfl rfl) rfl ?_
        refine y (ev_move rfl) rfl ?_
        refine yg0 rfl rfl rfl rfl ?_
        refine yg0 rfl rfl rfl rfl ?_
        refine yg0 rfl rfl rfl rfl ?_
        refine y (ev_pick0 rfl rfl) rfl ?_
        refine y (ev_move rfl) rfl ?_
        refine yg0 rfl rfl rfl rfl ?_
        refine yg0 rfl rfl rfl rfl ?_
        refine yg0 rfl rfl rfl rfl ?_
        refine yg0 rfl rfl rfl rfl ?_
        refine y (ev_pick0 rfl rfl) rfl ?_
        refine y (ev_move rfl) rfl ?_
        refine yg0 rfl rfl rfl rfl ?_
        refine yg0 rfl rfl rfl rfl ?_
        refine y (ev_pick0 rfl rfl) rfl ?_
        refine y (ev_move rfl) rfl ?_
        refine yg0 rfl rfl rfl rfl ?_
        refine yg0 rfl rfl rfl rfl ?_
        refine y (ev_pick0 rfl rfl) rfl ?_
        refine y (ev_move rfl) rfl ?_
        refine yg0 rfl rfl rfl rfl ?_
        refine yg0 rfl rfl rfl rfl ?_
        refine y (ev_pick0 rfl rfl) rfl ?_
        refine y (ev_move rfl) rfl ?_
        refine yg0 rfl rfl rfl rfl ?_
        refine yg0 rfl rfl rfl rfl ?_
        refine yg0 rfl rfl rfl rfl ?_
        refine y (ev_pick0 rfl rfl) rfl ?_
        refine y (ev_assign rfl) rfl ?_
        refine ynil' (kthn (hK15 _ _ ?_))
        clear hK15
        refine cret ?_
        first
          | (exfalso; omega; done)
          | (refine kretv Try.results14 rfl (L1 := R) (by repeat first | exact .refl | exact .nil | exact .z | apply Pk.s | refine Ge.e ?_ | apply Ge.pick | apply Ge.drop) ?_
             exact ⟨_, ⟨by first | rfl | (simp [*]; done) | (simp [*]; omega) | simp_all, rfl⟩, by first | rfl | (simp [*]; done) | (simp [*]; omega) | simp_all⟩)
end W
end Go.Proofs
