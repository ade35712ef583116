/- A part of the proof: contracts and plain lemmas, each without conditions beyond those that it names. -/
import Derived.Test.YtnfbhgalkcmbdaaL8
set_option linter.unusedVariables false
set_option linter.unusedSimpArgs false
set_option linter.constructorNameAsVariable false
namespace Go.Proofs
open Go Go.Sl
namespace W
set_option linter.unusedVariables false
theorem lawLTwo [Env] {R : List Seg} {bv : Int} {lv : Value} {acts : List ActL} (hb : 0 ≤ bv ∧ bv ≤ 255) (hl : RdV R lv acts.length (actlsV acts)) (haa : ∀ a ∈ acts, a.ok R) :
    Con Try.prog 9 [.int .u8 bv, lv] [] R (Is (.bool true) []) := by
  have hvl := hl.lenVal
  refine con_enter Try.func9 Try.ntmps9 rfl rfl ?_
  refine cseq ?_; intro K1 hK1
  refine creg ?_
  refine y (ev_assign rfl) rfl ?_
  refine ynil' (kthn (hK1 _ _ ?_))
  clear hK1
  refine cseq ?_; intro K2 hK2
  refine cseq ?_; intro K3 hK3
  refine creg ?_
  refine ycall (awake6) rfl Try.call25 (by repeat first | exact .nil | exact .z | apply Pk.s | apply Tk.cons) rfl ?_
  rintro v L' ⟨rfl, rfl⟩
  skip
  · skip
    refine y (ev_not rfl) rfl ?_
    refine ynil' (kthn (hK3 _ _ ?_))
    clear hK3
    refine ccond0 rfl ?_
    refine cskip' (kthn (hK2 _ _ ?_))
    clear hK2
    refine cseq ?_; intro K4 hK4
    refine creg ?_
    refine y (ev_move rfl) rfl ?_
    refine y (ev_rem rfl rfl (by decide)) rfl ?_
    refine y (ev_conv rfl Try.underlying5 Try.underlying3) rfl ?_
    refine y (ev_add rfl rfl) rfl ?_
    rw [nRing_eq hb.1 hb.2]; obtain ⟨n2, n20⟩ := nRing_le bv; obtain ⟨n, hn0⟩ : ∃ n, nRing bv = n := ⟨_, rfl⟩; rw [hn0] at n2 n20 ⊢
    have hL0 : LDev 4 n 0 1 (Dev.new (2 * n + 4)) (2 * n + 4) 0 1 0 0 [] := new_ldev (by omega) n2 ⟨by decide, by omega⟩ (by decide) ⟨by decide, by omega⟩ ⟨by decide, by omega⟩ (by unfold inRing; omega) (by unfold inRing; omega)
    have hM0 : LDev (4 + n) n 2 3 (Dev.new (2 * n + 4)) (2 * n + 4) 0 1 0 0 [] := new_ldev (by omega) n2 ⟨by omega, by omega⟩ (by decide) ⟨by decide, by omega⟩ ⟨by decide, by omega⟩ (by unfold inRing; omega) (by unfold inRing; omega)
    have hK0 : LDev 2 n 0 1 (Dev.new (n + 2)) (n + 2) 0 1 0 0 [] := new_ldev (by omega) n2 ⟨by decide, by omega⟩ (by decide) ⟨by decide, by omega⟩ ⟨by decide, by omega⟩ (by unfold inRing; omega) (by unfold inRing; omega)
    refine y (ev_assign rfl) rfl ?_
    refine ynil' (kthn (hK4 _ _ ?_))
    clear hK4
    refine cseq ?_; intro K5 hK5
    refine creg ?_
    refine y (ev_move rfl) rfl ?_
    refine y (ev_mul rfl rfl) rfl ?_
    rw [wr (by omega) (by omega)]
    refine y (ev_add rfl rfl) rfl ?_
    rw [wr (by omega) (by omega), show 2 * (n : Int) + 4 = ((2 * n + 4 : Nat) : Int) by omega]
    refine ycall (secNew (n := 2 * n + 4) (by omega)) rfl Try.call12 (by repeat first | exact .nil | exact .z | apply Pk.s | apply Tk.cons) rfl ?_
    rintro v L' ⟨q29, rfl, rfl⟩
    refine y (ev_assign rfl) rfl ?_
    refine ynil' (kthn (hK5 _ _ ?_))
    clear hK5
    refine cseq ?_; intro K6 hK6
    refine creg ?_
    refine y (ev_move rfl) rfl ?_
    refine y (ev_add rfl rfl) rfl ?_
    rw [wr (by omega) (by omega), show (n : Int) + 2 = ((n + 2 : Nat) : Int) by omega]
    refine ycall (secNew (n := n + 2) (by omega)) rfl Try.call12 (by repeat first | exact .nil | exact .z | apply Pk.s | apply Tk.cons) rfl ?_
    rintro v L' ⟨q32, rfl, rfl⟩
    refine y (ev_assign rfl) rfl ?_
    refine ynil' (kthn (hK6 _ _ ?_))
    clear hK6
    refine cseq ?_; intro K7 hK7
    refine cseq ?_; intro K8 hK8
    refine creg ?_
    refine y (ev_move rfl) rfl ?_
    skip
    · skip
      refine y (ev_eqlPnil rfl rfl Try.underlying24) rfl ?_
      refine y (ev_move rfl) rfl ?_
      refine yg1 rfl rfl ?_
      refine y (ev_move rfl) rfl ?_
      refine yg1 rfl rfl ?_
      refine y (ev_eqlPnil rfl rfl Try.underlying24) rfl ?_
      refine y (ev_pick0 rfl rfl) rfl ?_
      refine ynil' (kthn (hK8 _ _ ?_))
      clear hK8
      refine ccond0 rfl ?_
      refine cskip' (kthn (hK7 _ _ ?_))
      clear hK7
      refine cseq ?_; intro K9 hK9
      refine creg ?_
      refine y (ev_move rfl) rfl ?_
      refine y (ev_move rfl) rfl ?_
      refine ycall (gOpen hL0 (by decide) rfl) rfl Try.call26 (by repeat first | exact .nil | exact .z | apply Pk.s | apply Tk.cons) rfl ?_
      rintro v L' ⟨D1, p42, c42, s42, rfl, hL1, hf42, ok42, rfl⟩
      have hM1 := hM0.same hL1.up (fun j j0 j1 jc => hf42 j j0 j1 (by unfold inRing at jc; omega) (by unfold inRing at jc; omega))
      refine y (ev_move rfl) rfl ?_
      refine y (ev_extract rfl rfl) rfl ?_
      refine y (ev_extract rfl rfl) rfl ?_
      refine y (ev_assign rfl) rfl ?_
      refine y (ev_assign rfl) rfl ?_
      refine ynil' (kthn (hK9 _ _ ?_))
      clear hK9
      refine cseq ?_; intro K10 hK10
      refine creg ?_
      refine y (ev_move rfl) rfl ?_
      refine y (ev_move rfl) rfl ?_
      refine y (ev_add rfl rfl) rfl ?_
      rw [wr (by omega) (by omega)]
      refine y (ev_move rfl) rfl ?_
      refine ycall (gOpen hM1 (by decide) rfl) rfl Try.call26 (by repeat first | exact .nil | exact .z | apply Pk.s | apply Tk.cons) rfl ?_
      rintro v L' ⟨D2, p50, c50, s50, rfl, hM2, hf50, ok50, rfl⟩
      obtain ⟨hL2, eL2⟩ := hL1.aside hM2.up (fun j j0 j1 jc => hf50 j j0 j1 (by unfold inRing at jc; omega) (by unfold inRing at jc; omega))
      rw [show logD 4 n 0 1 D1 1 (0 + 1) 0 [] = logD 4 n 0 1 D2 1 (0 + 1) 0 [] by unfold logD; rw [eL2]]
      refine y (ev_move rfl) rfl ?_
      refine y (ev_extract rfl rfl) rfl ?_
      refine y (ev_extract rfl rfl) rfl ?_
      refine y (ev_assign rfl) rfl ?_
      refine y (ev_assign rfl) rfl ?_
      refine ynil' (kthn (hK10 _ _ ?_))
      clear hK10
      refine cseq ?_; intro K11 hK11
      refine creg ?_
      refine y (ev_move rfl) rfl ?_
      refine y (ev_move rfl) rfl ?_
      refine ycall (gOpen hK0 (by decide) rfl) rfl Try.call26 (by repeat first | exact .nil | exact .z | apply Pk.s | apply Tk.cons) rfl ?_
      rintro v L' ⟨E1, p56, c56, s56, rfl, hK1, hf56, ok56, rfl⟩
      refine y (ev_move rfl) rfl ?_
      refine y (ev_extract rfl rfl) rfl ?_
      refine y (ev_extract rfl rfl) rfl ?_
      refine y (ev_assign rfl) rfl ?_
      refine y (ev_assign rfl) rfl ?_
      refine ynil' (kthn (hK11 _ _ ?_))
      clear hK11
      refine cseq ?_; intro K12 hK12
      refine cseq ?_; intro K13 hK13
      refine creg ?_
      refine y (ev_move rfl) rfl ?_
      skip
      · skip
        refine y (ev_eqlPnil rfl rfl Try.underlying46) rfl ?_
        refine y (ev_move rfl) rfl ?_
        refine yg1 rfl rfl ?_
        refine y (ev_move rfl) rfl ?_
        refine yg1 rfl rfl ?_
        refine y (ev_eqlPnil rfl rfl Try.underlying46) rfl ?_
        refine y (ev_pick0 rfl rfl) rfl ?_
        refine y (ev_move rfl) rfl ?_
        refine yg1 rfl rfl ?_
        refine y (ev_move rfl) rfl ?_
        refine yg1 rfl rfl ?_
        refine y (ev_eqlPnil rfl rfl Try.underlying46) rfl ?_
        refine y (ev_pick0 rfl rfl) rfl ?_
        refine ynil' (kthn (hK13 _ _ ?_))
        clear hK13
        refine ccond0 rfl ?_
        refine cskip' (kthn (hK12 _ _ ?_))
        clear hK12
        refine cseq ?_; intro K14 hK14
        refine cseq ?_; intro K15 hK15
        refine creg ?_
        refine y (ev_assign rfl) rfl ?_
        refine ynil' (kthn (hK15 _ _ ?_))
        clear hK15
        have hJ1 : ∀ x : Nat × LtM, ((LtM.ok n x.2 (x.1 + 1) ∧ itOk x.2.sl (logD 4 n 0 1 x.2.D x.2.h 1 x.2.le x.2.l) ∧ itOk x.2.sm (logD (4 + n) n 2 3 x.2.D x.2.hm 1 x.2.em x.2.lm) ∧ itOk x.2.sk (logD 2 n 0 1 x.2.E x.2.h 1 x.2.ek x.2.l) ∧ x.1 ≤ acts.length ∧ x.1 ≤ 60) ∧ (True)) → Sk 202 K14 ([(14, i64 x.1), (8, ptr p42), (10, ptr p50), (12, ptr p56), (6, dp q29), (5, i64 n), (1, lv)]) ([logG p42 c42 q29 x.2.sl (logD 4 n 0 1 x.2.D x.2.h 1 x.2.le x.2.l), logG p50 c50 q29 x.2.sm (logD (4 + n) n 2 3 x.2.D x.2.hm 1 x.2.em x.2.lm), logG p56 c56 q32 x.2.sk (logD 2 n 0 1 x.2.E x.2.h 1 x.2.ek x.2.l), dev q29 x.2.D, dev q32 x.2.E] ++ R) := by
          rintro ⟨i, sl, sm, sk, D, E, h, le, ek, l, hm, em, lm⟩ ⟨hI1, hX1⟩
          refine hK14 _ _ ?_
          obtain ⟨⟨hL, hM, hK⟩, okl, okm, okk, hi1, hi2⟩ := hI1; dsimp only at hL hM hK okl okm okk hi1 hi2 ⊢; have hll := hL.ll; have hh1 := hL.h1; have hht := hL.ht; have hllm := hM.ll; have hh1m := hM.h1; have hhtm := hM.ht
          skip
          refine cseq ?_; intro K16 hK16
          refine creg ?_
          refine y (ev_move rfl) rfl ?_
          refine y (ev_move rfl) rfl ?_
          refine ycall (gOpen hL (by omega) rfl) rfl Try.call26 (by repeat first | exact .nil | exact .z | apply Pk.s | apply Tk.cons) rfl ?_
          rintro v L' ⟨D3, p171, c171, s171, rfl, hL3, hf171, ok171, rfl⟩
          have hM3 := hM.same hL3.up (fun j j0 j1 jc => hf171 j j0 j1 (by unfold inRing at jc; omega) (by unfold inRing at jc; omega))
          refine y (ev_move rfl) rfl ?_
          refine y (ev_extract rfl rfl) rfl ?_
          refine y (ev_extract rfl rfl) rfl ?_
          refine y (ev_assign rfl) rfl ?_
          refine y (ev_assign rfl) rfl ?_
          refine ynil' (kthn (hK16 _ _ ?_))
          clear hK16
          refine cseq ?_; intro K17 hK17
          refine creg ?_
          refine y (ev_move rfl) rfl ?_
          refine y (ev_move rfl) rfl ?_
          refine y (ev_add rfl rfl) rfl ?_
          rw [wr (by omega) (by omega)]
          refine y (ev_move rfl) rfl ?_
          refine ycall (gOpen hM3 (by omega) rfl) rfl Try.call26 (by repeat first | exact .nil | exact .z | apply Pk.s | apply Tk.cons) rfl ?_
          rintro v L' ⟨D4, p179, c179, s179, rfl, hM4, hf179, ok179, rfl⟩
          refine y (ev_move rfl) rfl ?_
          refine y (ev_extract rfl rfl) rfl ?_
          refine y (ev_extract rfl rfl) rfl ?_
          refine y (ev_assign rfl) rfl ?_
          refine y (ev_assign rfl) rfl ?_
          refine ynil' (kthn (hK17 _ _ ?_))
          clear hK17
          refine cseq ?_; intro K18 hK18
          refine creg ?_
          refine y (ev_move rfl) rfl ?_
          skip
          · skip
            refine y (ev_neqPnil rfl rfl Try.underlying46) rfl ?_
            refine y (ev_move rfl) rfl ?_
            refine yg1 rfl rfl ?_
            refine y (ev_move rfl) rfl ?_
            refine yg1 rfl rfl ?_
            refine y (ev_neqPnil rfl rfl Try.underlying46) rfl ?_
            refine y (ev_pick1 rfl rfl) rfl ?_
            refine y (ev_move rfl) rfl ?_
            refine yg1 rfl rfl ?_
            refine y (ev_move rfl) rfl ?_
            refine yg1 rfl rfl ?_
            refine ycall (bRecords ?ra87 ?rb87) rfl Try.call31 (by repeat first | exact .nil | exact .z | apply Pk.s | apply Tk.cons) rfl ?_
            case ra87 => assumption
            case rb87 => first | (show l.length ≤ 512; omega) | (show lm.length ≤ 512; omega)
            rintro v L' ⟨s190, rfl, ok190, rfl⟩
            refine yg1 rfl rfl ?_
            refine y (ev_move rfl) rfl ?_
            refine yg1 rfl rfl ?_
            refine ycall (bRecords ?ra89 ?rb89) rfl Try.call31 (by repeat first | exact .nil | exact .z | apply Pk.s | apply Tk.cons) rfl ?_
            case ra89 => assumption
            case rb89 => first | (show l.length ≤ 512; omega) | (show lm.length ≤ 512; omega)
            rintro v L' ⟨s192, rfl, ok192, rfl⟩
            refine yg1 rfl rfl ?_
            refine ycall (nSame (u1 := l.map (·.1)) (u2 := l.map (·.1)) ?ia90 ?ib90 ?ic90) rfl Try.call30 (by repeat first | exact .nil | exact .z | apply Pk.s | apply Tk.cons) rfl ?_
            case ia90 => exact rdV_sv (by repeat first | exact .z | apply In.s) (by assumption)
            case ib90 => exact rdV_sv (by repeat first | exact .z | apply In.s) (by assumption)
            case ic90 => (simp; omega)
            rintro v L' ⟨rfl, rfl⟩
            rw [show (decide (l.map (·.1) = l.map (·.1))) = true by simp]
            refine y (ev_pick1 rfl rfl) rfl ?_
            refine y (ev_move rfl) rfl ?_
            refine ysplit 195 rfl (fun h93 => ?_) (fun h93 => ?_)
            · (try simp only [decide_eq_true_eq, beq_iff_eq, beq_eq_false_iff_ne, decide_eq_decide, decide_eq_false_iff_not, Bool.not_eq_true', Bool.not_eq_false', Bool.not_eq_true, Bool.not_eq_false, Bool.not_not, ne_eq, Option.isNone_some, Option.isSome_some, Option.isNone_none, Option.isSome_none] at h93)
              refine yg1 rfl rfl ?_
              refine y (ev_move rfl) rfl ?_
              refine yg1 rfl rfl ?_
              refine ycall (bRecords ?ra95 ?rb95) rfl Try.call31 (by repeat first | exact .nil | exact .z | apply Pk.s | apply Tk.cons) rfl ?_
              case ra95 => assumption
              case rb95 => first | (show l.length ≤ 512; omega) | (show lm.length ≤ 512; omega)
              rintro v L' ⟨s197, rfl, ok197, rfl⟩
              refine yg1 rfl rfl ?_
              refine y (ev_move rfl) rfl ?_
              refine yg1 rfl rfl ?_
              refine ycall (bRecords ?ra97 ?rb97) rfl Try.call31 (by repeat first | exact .nil | exact .z | apply Pk.s | apply Tk.cons) rfl ?_
              case ra97 => assumption
              case rb97 => first | (show l.length ≤ 512; omega) | (show lm.length ≤ 512; omega)
              rintro v L' ⟨s199, rfl, ok199, rfl⟩
              refine yg1 rfl rfl ?_
              refine ycall (nSame (u1 := lm.map (·.1)) (u2 := lm.map (·.1)) ?ia98 ?ib98 ?ic98) rfl Try.call30 (by repeat first | exact .nil | exact .z | apply Pk.s | apply Tk.cons) rfl ?_
              case ia98 => exact rdV_sv (by repeat first | exact .z | apply In.s) (by assumption)
              case ib98 => exact rdV_sv (by repeat first | exact .z | apply In.s) (by assumption)
              case ic98 => (simp; omega)
              rintro v L' ⟨rfl, rfl⟩
              rw [show (decide (lm.map (·.1) = lm.map (·.1))) = true by simp]
              refine y (ev_pick1 rfl rfl) rfl ?_
              refine y (ev_assign rfl) rfl ?_
              refine ynil' (kthn (hK18 _ _ ?_))
              clear hK18
              refine cret ?_
              first
                | (exfalso; omega; done)
                | (refine kretv Try.results9 rfl (L1 := R) (by repeat first | exact .refl | exact .nil | exact .z | apply Pk.s | refine Ge.e ?_ | apply Ge.pick | apply Ge.drop) ?_
                   exact ⟨_, ⟨by first | rfl | (exfalso; simp_all; done), rfl⟩, by first | rfl | (exfalso; simp_all; done)⟩)
            · (try simp only [decide_eq_true_eq, beq_iff_eq, beq_eq_false_iff_ne, decide_eq_decide, decide_eq_false_iff_not, Bool.not_eq_true', Bool.not_eq_false', Bool.not_eq_true, Bool.not_eq_false, Bool.not_not, ne_eq, Option.isNone_some, Option.isSome_some, Option.isNone_none, Option.isSome_none] at h93)
              refine yg0 rfl rfl rfl rfl ?_
              refine yg0 rfl rfl rfl rfl ?_
              refine yg0 rfl rfl rfl rfl ?_
              refine yg0 rfl rfl rfl rfl ?_
              refine yg0 rfl rfl rfl rfl ?_
              refine y (ev_pick0 rfl rfl) rfl ?_
              refine y (ev_assign rfl) rfl ?_
              refine ynil' (kthn (hK18 _ _ ?_))
              clear hK18
              refine cret ?_
              first
                | (exfalso; omega; done)
                | (refine kretv Try.results9 rfl (L1 := R) (by repeat first | exact .refl | exact .nil | exact .z | apply Pk.s | refine Ge.e ?_ | apply Ge.pick | apply Ge.drop) ?_
                   exact ⟨_, ⟨by first | rfl | (exfalso; simp_all; done), rfl⟩, by first | rfl | (exfalso; simp_all; done)⟩)
        clear hK14
        refine cblock ?_
        refine cloop (A := Nat × LtM) (fun x => [(14, i64 x.1), (8, ptr p42), (10, ptr p50), (12, ptr p56), (6, dp q29), (5, i64 n), (1, lv)]) (fun x => [logG p42 c42 q29 x.2.sl (logD 4 n 0 1 x.2.D x.2.h 1 x.2.le x.2.l), logG p50 c50 q29 x.2.sm (logD (4 + n) n 2 3 x.2.D x.2.hm 1 x.2.em x.2.lm), logG p56 c56 q32 x.2.sk (logD 2 n 0 1 x.2.E x.2.h 1 x.2.ek x.2.l), dev q29 x.2.D, dev q32 x.2.E] ++ R) (fun x => LtM.ok n x.2 (x.1 + 1) ∧ itOk x.2.sl (logD 4 n 0 1 x.2.D x.2.h 1 x.2.le x.2.l) ∧ itOk x.2.sm (logD (4 + n) n 2 3 x.2.D x.2.hm 1 x.2.em x.2.lm) ∧ itOk x.2.sk (logD 2 n 0 1 x.2.E x.2.h 1 x.2.ek x.2.l) ∧ x.1 ≤ acts.length ∧ x.1 ≤ 60) (fun x => 60 - x.1) ((0, ⟨s42, s50, s56, D2, E1, 1, 0, 0, [], 1, 0, []⟩)) ?_ (by repeat first | exact sub_nil | refine sub_cons rfl ?_ | refine sub_cons' rfl (by simp) ?_) (by repeat first | exact .refl | exact .nil | exact .z | apply Pk.s | refine Ge.e ?_ | apply Ge.pick | apply Ge.drop) ?_
        · exact ⟨⟨hL2, hM2, hK1⟩, ok42, ok50, ok56, Nat.zero_le _, Nat.zero_le _⟩
        rintro ⟨i, sl, sm, sk, D, E, h, le, ek, l, hm, em, lm⟩ hI1 KL1 hL1
        have hI1o := hI1
        obtain ⟨⟨hL, hM, hK⟩, okl, okm, okk, hi1, hi2⟩ := hI1; dsimp only at hL hM hK okl okm okk hi1 hi2 ⊢; have hll := hL.ll; have hh1 := hL.h1; have hht := hL.ht; have hllm := hM.ll; have hh1m := hM.h1; have hhtm := hM.ht
        refine cseq ?_; intro K19 hK19
        refine cseq ?_; intro K20 hK20
        refine creg ?_
        refine y (ev_move rfl) rfl ?_
        refine y (ev_move rfl) rfl ?_
        first
          | refine y (ev_len rfl Try.underlying55) rfl ?_
          | refine y (ev_lenSv rfl Try.underlying55 (by assumption)) rfl ?_
          | refine y (ev_lenV rfl Try.underlying55 (RdV.lenVal (by assumption))) rfl ?_
          | refine y (ev_lenV rfl Try.underlying55 (RdB.lenVal (by assumption))) rfl ?_
        refine y (ev_lss rfl rfl) rfl ?_
        refine y (ev_move rfl) rfl ?_
        refine ysplit 73 rfl (fun h108 => ?_) (fun h108 => ?_)
        · (try simp only [decide_eq_true_eq, beq_iff_eq, beq_eq_false_iff_ne, decide_eq_decide, decide_eq_false_iff_not, Bool.not_eq_true', Bool.not_eq_false', Bool.not_eq_true, Bool.not_eq_false, Bool.not_not, ne_eq, Option.isNone_some, Option.isSome_some, Option.isNone_none, Option.isSome_none] at h108)
          refine yg1 rfl rfl ?_
          refine y (ev_move rfl) rfl ?_
          refine yg1 rfl rfl ?_
          refine y (ev_lss rfl rfl) rfl ?_
          refine y (ev_pick1 rfl rfl) rfl ?_
          refine ynil' (kthn (hK20 _ _ ?_))
          clear hK20
          refine ccond rfl (fun h112 => ?_) (fun h112 => ?_)
          · (try simp only [decide_eq_true_eq, beq_iff_eq, beq_eq_false_iff_ne, decide_eq_decide, decide_eq_false_iff_not, Bool.not_eq_true', Bool.not_eq_false', Bool.not_eq_true, Bool.not_eq_false, Bool.not_not, ne_eq, Option.isNone_some, Option.isSome_some, Option.isNone_none, Option.isSome_none] at h112)
            refine cskip' (kthn (hK19 _ _ ?_))
            clear hK19
            refine cseq ?_; intro K21 hK21
            have hJr15 : ∀ x : LtM, (LtM.ok n x (i + 2) ∧ itOk x.sl (logD 4 n 0 1 x.D x.h 1 x.le x.l) ∧ itOk x.sm (logD (4 + n) n 2 3 x.D x.hm 1 x.em x.lm) ∧ itOk x.sk (logD 2 n 0 1 x.E x.h 1 x.ek x.l)) → Sk 202 K21 ([(14, i64 i), (8, ptr p42), (10, ptr p50), (12, ptr p56), (6, dp q29), (5, i64 n), (1, lv)]) ([logG p42 c42 q29 x.sl (logD 4 n 0 1 x.D x.h 1 x.le x.l), logG p50 c50 q29 x.sm (logD (4 + n) n 2 3 x.D x.hm 1 x.em x.lm), logG p56 c56 q32 x.sk (logD 2 n 0 1 x.E x.h 1 x.ek x.l), dev q29 x.D, dev q32 x.E] ++ R) := by
              rintro ⟨sl, sm, sk, D, E, h, le, ek, l, hm, em, lm⟩ hIr15
              refine hK21 _ _ ?_
              obtain ⟨⟨hL, hM, hK⟩, okl, okm, okk⟩ := hIr15; dsimp only at hL hM hK okl okm okk ⊢; have hi3 : i < 60 ∧ i < acts.length := by omega
              refine creg ?_
              refine y (ev_move rfl) rfl ?_
              refine y (ev_add rfl rfl) rfl ?_
              rw [show IntKind.i64.wrap ((i:Int) + 1) = ((i+1 : Nat) : Int) by rw [wr (by omega) (by omega)]; rfl]
              refine y (ev_assign rfl) rfl ?_
              refine ynil' (kthn ?_)
              exact hL1 ((i + 1, ⟨sl, sm, sk, D, E, h, le, ek, l, hm, em, lm⟩)) (⟨⟨hL, hM, hK⟩, okl, okm, okk, by dsimp only; omega, by dsimp only; omega⟩) (by dsimp only; omega) _ _ (by repeat first | exact sub_nil | refine sub_cons rfl ?_ | refine sub_cons' rfl (by simp) ?_) (by repeat first | exact .refl | exact .nil | exact .z | apply Pk.s | refine Ge.e ?_ | apply Ge.pick | apply Ge.drop)
            clear hK21
            refine cblock ?_
            refine cseq ?_; intro K22 hK22
            refine creg ?_
            obtain ⟨a, hka⟩ : ∃ a, acts[i]? = some a := ⟨_, List.getElem?_eq_getElem (by omega)⟩
            have hact := haa a (List.mem_of_getElem? hka)
            refine y (ev_move rfl) rfl ?_
            refine y (ev_move rfl) rfl ?_
            refine y (ev_ixV hl rfl rfl Try.underlying55 Try.sizeOf58 (by omega) (by omega)) rfl ?_
            refine y (ev_loadNV (us := a.cells) (i * 4) hl (by repeat first | exact .refl | exact .nil | exact .z | apply Pk.s | refine Ge.e ?_ | apply Ge.pick | apply Ge.drop) rfl Try.isAgg58 Try.sizeOf58 (by simp) (actlsV_get hka) rfl) rfl ?_
            refine ya (ac_alloc Try.zeroValue58 rfl) rfl ?_
            rintro v L' ⟨b15, rfl, rfl⟩
            refine ya0 (ac_storeAll rfl rfl hact.one Try.sizeOf58 (by repeat first | exact .z | apply Rp.s) (by rfl) (by rfl)) ?_
            rintro v L' ⟨rfl, rfl⟩
            refine ynil' (kthn (hK22 _ _ ?_))
            clear hK22
            refine cseq ?_; intro K23 hK23
            refine cseq ?_; intro K24 hK24
            refine creg ?_
            refine y (ev_loadN (u := a.cells) rfl Try.isAgg58 Try.sizeOf58 (by repeat first | exact .z | apply In.s) rfl rfl) rfl ?_
            refine ycall (nLarge (x := a) ?lx123) rfl Try.call34 (by repeat first | exact .nil | exact .z | apply Pk.s | apply Tk.cons) rfl ?_
            case lx123 => exact hact.mono (by repeat first | exact .refl | exact .nil | exact .z | apply Pk.s | refine Ge.e ?_ | apply Ge.pick | apply Ge.drop)
            rintro v L' ⟨big84, rfl, hbig84, rfl⟩
            refine ynil' (kthn (hK24 _ _ ?_))
            clear hK24
            refine ccond rfl (fun h124 => ?_) (fun h124 => ?_)
            · (try simp only [decide_eq_true_eq, beq_iff_eq, beq_eq_false_iff_ne, decide_eq_decide, decide_eq_false_iff_not, Bool.not_eq_true', Bool.not_eq_false', Bool.not_eq_true, Bool.not_eq_false, Bool.not_not, ne_eq, Option.isNone_some, Option.isSome_some, Option.isNone_none, Option.isSome_none] at h124)
              refine cseq ?_; intro K25 hK25
              refine creg ?_
              refine y (ev_assign rfl) rfl ?_
              refine ynil' (kthn (hK25 _ _ ?_))
              clear hK25
              refine cret (kthr (kbr (kthr (kthr (kbr (kthr ?_))))))
              first
                | (exfalso; omega; done)
                | (refine kretv Try.results9 rfl (L1 := R) (by repeat first | exact .refl | exact .nil | exact .z | apply Pk.s | refine Ge.e ?_ | apply Ge.pick | apply Ge.drop) ?_
                   exact ⟨_, ⟨by first | rfl | (exfalso; simp_all; done), rfl⟩, by first | rfl | (exfalso; simp_all; done)⟩)
            · (try simp only [decide_eq_true_eq, beq_iff_eq, beq_eq_false_iff_ne, decide_eq_decide, decide_eq_false_iff_not, Bool.not_eq_true', Bool.not_eq_false', Bool.not_eq_true, Bool.not_eq_false, Bool.not_not, ne_eq, Option.isNone_some, Option.isSome_some, Option.isNone_none, Option.isSome_none] at h124)
              refine cskip' (kthn (hK23 _ _ ?_))
              clear hK23
              refine cseq ?_; intro K26 hK26
              refine cseq ?_; intro K27 hK27
              refine creg ?_
              refine y (ev_move rfl) rfl ?_
              refine y (ev_rem rfl rfl (by decide)) rfl ?_
              refine y (ev_eql rfl rfl) rfl ?_
              refine ynil' (kthn (hK27 _ _ ?_))
              clear hK27
              refine ccond rfl (fun h129 => ?_) (fun h129 => ?_)
              · (try simp only [decide_eq_true_eq, beq_iff_eq, beq_eq_false_iff_ne, decide_eq_decide, decide_eq_false_iff_not, Bool.not_eq_true', Bool.not_eq_false', Bool.not_eq_true, Bool.not_eq_false, Bool.not_not, ne_eq, Option.isNone_some, Option.isSome_some, Option.isNone_none, Option.isSome_none] at h129)
                refine cseq ?_; intro K28 hK28
                refine cseq ?_; intro K29 hK29
                refine creg ?_
                refine y (ev_fieldAddr 0 rfl Try.underlying58 rfl Try.sizeOf3) rfl ?_
                refine y (ev_load rfl Try.isAgg3 (by repeat first | exact .z | apply In.s) rfl) rfl ?_
                refine ynil' (kthn (hK29 _ _ ?_))
                clear hK29
                refine cblock ?_
                refine cseq ?_; intro K30 hK30
                refine creg ?_
                refine y (ev_eql rfl rfl) rfl ?_
                refine y (ev_assign rfl) rfl ?_
                refine ynil' (kthn (hK30 _ _ ?_))
                clear hK30
                refine ccond rfl (fun h134 => ?_) (fun h134 => ?_)
                · (try simp only [decide_eq_true_eq, beq_iff_eq, beq_eq_false_iff_ne, decide_eq_decide, decide_eq_false_iff_not, Bool.not_eq_true', Bool.not_eq_false', Bool.not_eq_true, Bool.not_eq_false, Bool.not_not, ne_eq, Option.isNone_some, Option.isSome_some, Option.isNone_none, Option.isSome_none] at h134)
                  refine creg ?_
                  refine y (ev_move rfl) rfl ?_
                  refine y (ev_fieldAddr 2 rfl Try.underlying58 rfl Try.sizeOf9) rfl ?_
                  refine y (ev_load rfl Try.isAgg9 (by repeat first | exact .z | apply In.s) rfl) rfl ?_
                  refine ycall (gAppend (s := a.s) (N := 2 * n + 4) (k := i + 1) ?ag138 ?ak138 ?as138) rfl Try.call27 (by repeat first | exact .nil | exact .z | apply Pk.s | apply Tk.cons) rfl ?_
                  case ag138 => exact hM
                  case ak138 => omega
                  case as138 => exact okm
                  rintro v L' ⟨s95, D95, l95, rfl, hG95, hl95, hf95, hz95, ok95, rfl⟩
                  obtain ⟨hL2, eL2⟩ := hL.aside hG95.up (fun j j0 j1 jc => hf95 j (by have hm0 := Int.emod_nonneg (hm + lm.length) (show (n : Int) ≠ 0 by omega); unfold inRing at jc; omega))
                  rw [show logD 4 n 0 1 D h 1 le l = logD 4 n 0 1 D95 h 1 le l by unfold logD; rw [eL2]]
                  have hj := And.intro (LtM.ok.mk (x := ⟨sl, s95, sk, D95, E, h, le, ek, l, hm, em, l95⟩) hL2.up1 hG95 hK.up1) (And.intro okl (And.intro ok95 okk))
                  refine ynil' (kbn (kthn (hK28 _ _ ?_)))
                  clear hK28
                  refine cexit (kthx (kbx (kthn ?_)))
                  exact ksub (by repeat first | exact sub_nil | refine sub_cons rfl ?_ | refine sub_cons' rfl (by simp) ?_) (by repeat first | exact .refl | exact .nil | exact .z | apply Pk.s | refine Ge.e ?_ | apply Ge.pick | apply Ge.drop) (hJr15 ⟨_, _, _, _, _, _, _, _, _, _, _, _⟩ hj)
                · (try simp only [decide_eq_true_eq, beq_iff_eq, beq_eq_false_iff_ne, decide_eq_decide, decide_eq_false_iff_not, Bool.not_eq_true', Bool.not_eq_false', Bool.not_eq_true, Bool.not_eq_false, Bool.not_not, ne_eq, Option.isNone_some, Option.isSome_some, Option.isNone_none, Option.isSome_none] at h134)
                  refine cseq ?_; intro K31 hK31
                  refine creg ?_
                  refine y (ev_eql rfl rfl) rfl ?_
                  refine y (ev_assign rfl) rfl ?_
                  refine ynil' (kthn (hK31 _ _ ?_))
                  clear hK31
                  refine ccond rfl (fun h141 => ?_) (fun h141 => ?_)
                  · (try simp only [decide_eq_true_eq, beq_iff_eq, beq_eq_false_iff_ne, decide_eq_decide, decide_eq_false_iff_not, Bool.not_eq_true', Bool.not_eq_false', Bool.not_eq_true, Bool.not_eq_false, Bool.not_not, ne_eq, Option.isNone_some, Option.isSome_some, Option.isNone_none, Option.isSome_none] at h141)
                    refine creg ?_
                    refine y (ev_move rfl) rfl ?_
                    refine ycall (gSync (N := 2 * n + 4) (k := i + 1) ?ag143 ?as143) rfl Try.call35 (by repeat first | exact .nil | exact .z | apply Pk.s | apply Tk.cons) rfl ?_
                    case ag143 => exact hM
                    case as143 => exact okm
                    rintro v L' ⟨D99, rfl, hG99, hes99, hf99, ok99, rfl⟩
                    obtain ⟨hL2, eL2⟩ := hL.aside hG99.up (fun j j0 j1 _ => hf99 j j0 j1)
                    rw [show logD 4 n 0 1 D h 1 le l = logD 4 n 0 1 D99 h 1 le l by unfold logD; rw [eL2]]
                    have hj := And.intro (LtM.ok.mk (x := ⟨sl, sm, sk, D99, E, h, le, ek, l, hm, em, lm⟩) hL2.up1 hG99.up1 hK.up1) (And.intro okl (And.intro ok99 okk))
                    refine ynil' (kbn (kthn (hK28 _ _ ?_)))
                    clear hK28
                    refine cexit (kthx (kbx (kthn ?_)))
                    exact ksub (by repeat first | exact sub_nil | refine sub_cons rfl ?_ | refine sub_cons' rfl (by simp) ?_) (by repeat first | exact .refl | exact .nil | exact .z | apply Pk.s | refine Ge.e ?_ | apply Ge.pick | apply Ge.drop) (hJr15 ⟨_, _, _, _, _, _, _, _, _, _, _, _⟩ hj)
                  · (try simp only [decide_eq_true_eq, beq_iff_eq, beq_eq_false_iff_ne, decide_eq_decide, decide_eq_false_iff_not, Bool.not_eq_true', Bool.not_eq_false', Bool.not_eq_true, Bool.not_eq_false, Bool.not_not, ne_eq, Option.isNone_some, Option.isSome_some, Option.isNone_none, Option.isSome_none] at h141)
                    refine cseq ?_; intro K32 hK32
                    refine creg ?_
                    refine y (ev_eql rfl rfl) rfl ?_
                    refine y (ev_assign rfl) rfl ?_
                    refine ynil' (kthn (hK32 _ _ ?_))
                    clear hK32
                    refine ccond rfl (fun h146 => ?_) (fun h146 => ?_)
                    · (try simp only [decide_eq_true_eq, beq_iff_eq, beq_eq_false_iff_ne, decide_eq_decide, decide_eq_false_iff_not, Bool.not_eq_true', Bool.not_eq_false', Bool.not_eq_true, Bool.not_eq_false, Bool.not_not, ne_eq, Option.isNone_some, Option.isSome_some, Option.isNone_none, Option.isSome_none] at h146)
                      refine cdraw 7 [(0, true), (1, true), (3, true), (4, true), (5, true), (2, false), (6, true)] ([sc b15 a.cells 58] ++ R) Try.mixed (by kernel_rfl) (by repeat first | exact .refl | exact .nil | exact .z | apply Pk.s | refine Ge.e ?_ | apply Ge.pick | apply Ge.drop) ?_
                      refine hr rfl (ev_move rfl) rfl ?_
                      refine hr rfl (ev_move rfl) rfl ?_
                      refine hr rfl (ev_fieldAddr 1 rfl Try.underlying58 rfl Try.sizeOf3) rfl ?_
                      refine hr rfl (ev_load rfl Try.isAgg3 (by repeat first | exact .z | apply In.s) rfl) rfl ?_
                      refine hr rfl (ev_and rfl rfl) rfl ?_
                      obtain ⟨hz0, hz1⟩ := and31 a.n; generalize bAnd .i64 a.n 31 = z at *
                      refine hcall rfl (bHead) rfl Try.call29 (by repeat first | exact .nil | exact .z | apply Pk.s | apply Tk.cons) rfl ?_
                      rintro v L' ⟨rfl, rfl⟩; refine ⟨(by repeat first | exact .refl | exact .nil | exact .z | apply Pk.s | refine Ge.e ?_ | apply Ge.pick | apply Ge.drop), ?_⟩
                      refine hr rfl (ev_add rfl rfl) rfl ?_
                      rw [show (logD (4 + n) n 2 3 D hm 1 em lm).head = hm from rfl, wr (by omega) (by omega)]
                      refine hnil ?_
                      refine ycall (gTrim (m := hm + z) (N := 2 * n + 4) (k := i + 1) ?ag154 ?ak154 ?as154) rfl Try.call28 (by repeat first | exact .nil | exact .z | apply Pk.s | apply Tk.cons) rfl ?_
                      case ag154 => exact hM
                      case ak154 => omega
                      case as154 => exact okm
                      rintro v L' ⟨s109, D109, h109, e109, l109, rfl, hG109, hh109, hl109, hf109, ok109, rfl⟩
                      obtain ⟨hL2, eL2⟩ := hL.aside hG109.up (fun j j0 j1 jc => hf109 j j0 j1 (by unfold inRing at jc; omega) (by unfold inRing at jc; omega))
                      rw [show logD 4 n 0 1 D h 1 le l = logD 4 n 0 1 D109 h 1 le l by unfold logD; rw [eL2]]
                      have hj := And.intro (LtM.ok.mk (x := ⟨sl, s109, sk, D109, E, h, le, ek, l, h109, e109, l109⟩) hL2.up1 hG109 hK.up1) (And.intro okl (And.intro ok109 okk))
                      refine hnoP' (kbn (kthn (hK28 _ _ ?_)))
                      clear hK28
                      refine cexit (kthx (kbx (kthn ?_)))
                      exact ksub (by repeat first | exact sub_nil | refine sub_cons rfl ?_ | refine sub_cons' rfl (by simp) ?_) (by repeat first | exact .refl | exact .nil | exact .z | apply Pk.s | refine Ge.e ?_ | apply Ge.pick | apply Ge.drop) (hJr15 ⟨_, _, _, _, _, _, _, _, _, _, _, _⟩ hj)
                    · (try simp only [decide_eq_true_eq, beq_iff_eq, beq_eq_false_iff_ne, decide_eq_decide, decide_eq_false_iff_not, Bool.not_eq_true', Bool.not_eq_false', Bool.not_eq_true, Bool.not_eq_false, Bool.not_not, ne_eq, Option.isNone_some, Option.isSome_some, Option.isNone_none, Option.isSome_none] at h146)
                      have hj := And.intro (LtM.ok.mk (x := ⟨sl, sm, sk, D, E, h, le, ek, l, hm, em, lm⟩) hL.up1 hM.up1 hK.up1) (And.intro okl (And.intro okm okk))
                      refine cskip' (kbn (kthn (hK28 _ _ ?_)))
                      clear hK28
                      refine cexit (kthx (kbx (kthn ?_)))
                      exact ksub (by repeat first | exact sub_nil | refine sub_cons rfl ?_ | refine sub_cons' rfl (by simp) ?_) (by repeat first | exact .refl | exact .nil | exact .z | apply Pk.s | refine Ge.e ?_ | apply Ge.pick | apply Ge.drop) (hJr15 ⟨_, _, _, _, _, _, _, _, _, _, _, _⟩ hj)
              · (try simp only [decide_eq_true_eq, beq_iff_eq, beq_eq_false_iff_ne, decide_eq_decide, decide_eq_false_iff_not, Bool.not_eq_true', Bool.not_eq_false', Bool.not_eq_true, Bool.not_eq_false, Bool.not_not, ne_eq, Option.isNone_some, Option.isSome_some, Option.isNone_none, Option.isSome_none] at h129)
                refine cskip' (kthn (hK26 _ _ ?_))
                clear hK26
                refine cseq ?_; intro K33 hK33
                have hJr37 : ∀ x : LtM, (LtM.ok n x (i + 2) ∧ itOk x.sl (logD 4 n 0 1 x.D x.h 1 x.le x.l) ∧ itOk x.sm (logD (4 + n) n 2 3 x.D x.hm 1 x.em x.lm) ∧ itOk x.sk (logD 2 n 0 1 x.E x.h 1 x.ek x.l)) → Sk 202 K33 ([(14, i64 i), (8, ptr p42), (10, ptr p50), (12, ptr p56), (6, dp q29), (5, i64 n), (1, lv)]) ([logG p42 c42 q29 x.sl (logD 4 n 0 1 x.D x.h 1 x.le x.l), logG p50 c50 q29 x.sm (logD (4 + n) n 2 3 x.D x.hm 1 x.em x.lm), logG p56 c56 q32 x.sk (logD 2 n 0 1 x.E x.h 1 x.ek x.l), dev q29 x.D, dev q32 x.E] ++ R) := by
                  rintro ⟨sl, sm, sk, D, E, h, le, ek, l, hm, em, lm⟩ hIr37
                  refine hK33 _ _ ?_
                  have hj := hIr37; obtain ⟨⟨hL, hM, hK⟩, okl, okm, okk⟩ := hIr37; dsimp only at hL hM hK okl okm okk ⊢; have hll := hL.ll; have hh1 := hL.h1; have hht := hL.ht; have hi3 : i < 60 ∧ i < acts.length := by omega
                  refine cseq ?_; intro K34 hK34
                  refine creg ?_
                  refine y (ev_move rfl) rfl ?_
                  skip
                  · skip
                    refine ycall (bRecords ?ra156 ?rb156) rfl Try.call31 (by repeat first | exact .nil | exact .z | apply Pk.s | apply Tk.cons) rfl ?_
                    case ra156 => assumption
                    case rb156 => first | (show l.length ≤ 512; omega) | (show lm.length ≤ 512; omega)
                    rintro v L' ⟨s149, rfl, ok149, rfl⟩
                    refine y (ev_move rfl) rfl ?_
                    refine ycall (bRecords ?ra158 ?rb158) rfl Try.call31 (by repeat first | exact .nil | exact .z | apply Pk.s | apply Tk.cons) rfl ?_
                    case ra158 => assumption
                    case rb158 => first | (show l.length ≤ 512; omega) | (show lm.length ≤ 512; omega)
                    rintro v L' ⟨s151, rfl, ok151, rfl⟩
                    refine ycall (nSame (u1 := l.map (·.1)) (u2 := l.map (·.1)) ?ia159 ?ib159 ?ic159) rfl Try.call30 (by repeat first | exact .nil | exact .z | apply Pk.s | apply Tk.cons) rfl ?_
                    case ia159 => exact rdV_sv (by repeat first | exact .z | apply In.s) (by assumption)
                    case ib159 => exact rdV_sv (by repeat first | exact .z | apply In.s) (by assumption)
                    case ic159 => (simp; omega)
                    rintro v L' ⟨rfl, rfl⟩
                    rw [show (decide (l.map (·.1) = l.map (·.1))) = true by simp]
                    refine y (ev_not rfl) rfl ?_
                    refine y (ev_move rfl) rfl ?_
                    refine yg1 rfl rfl ?_
                    refine y (ev_move rfl) rfl ?_
                    refine yg1 rfl rfl ?_
                    refine ycall (bHead) rfl Try.call29 (by repeat first | exact .nil | exact .z | apply Pk.s | apply Tk.cons) rfl ?_
                    rintro v L' ⟨rfl, rfl⟩
                    refine yg1 rfl rfl ?_
                    refine y (ev_move rfl) rfl ?_
                    refine yg1 rfl rfl ?_
                    refine ycall (bHead) rfl Try.call29 (by repeat first | exact .nil | exact .z | apply Pk.s | apply Tk.cons) rfl ?_
                    rintro v L' ⟨rfl, rfl⟩
                    refine yg1 rfl rfl ?_
                    refine y (ev_neq rfl rfl) rfl ?_
                    rw [show (!decide ((logD 4 n 0 1 D h 1 le l).head = (logD 2 n 0 1 E h 1 ek l).head)) = false by simp]
                    refine y (ev_pick0 rfl rfl) rfl ?_
                    refine y (ev_move rfl) rfl ?_
                    refine yg1 rfl rfl ?_
                    refine y (ev_move rfl) rfl ?_
                    refine yg1 rfl rfl ?_
                    refine ycall (bTail ?ta170 ?tb170 ?tc170 ?td170) rfl Try.call39 (by repeat first | exact .nil | exact .z | apply Pk.s | apply Tk.cons) rfl ?_
                    case ta170 => assumption
                    case tb170 => (show 0 ≤ h; omega)
                    case tc170 => (show h + (l.length : Int) ≤ _; omega)
                    case td170 => (show l.length ≤ 512; omega)
                    rintro v L' ⟨rfl, rfl⟩
                    refine yg1 rfl rfl ?_
                    refine y (ev_move rfl) rfl ?_
                    refine yg1 rfl rfl ?_
                    refine ycall (bTail ?ta172 ?tb172 ?tc172 ?td172) rfl Try.call39 (by repeat first | exact .nil | exact .z | apply Pk.s | apply Tk.cons) rfl ?_
                    case ta172 => assumption
                    case tb172 => (show 0 ≤ h; omega)
                    case tc172 => (show h + (l.length : Int) ≤ _; omega)
                    case td172 => (show l.length ≤ 512; omega)
                    rintro v L' ⟨rfl, rfl⟩
                    refine yg1 rfl rfl ?_
                    refine y (ev_neq rfl rfl) rfl ?_
                    rw [show (!decide ((logD 4 n 0 1 D h 1 le l).tail = (logD 2 n 0 1 E h 1 ek l).tail)) = false by simp [LogM.tail]]
                    refine y (ev_pick0 rfl rfl) rfl ?_
                    refine ynil' (kthn (hK34 _ _ ?_))
                    clear hK34
                    refine ccond0 rfl ?_
                    refine cskip' (kbn (kthn ?_))
                    exact ksub (by repeat first | exact sub_nil | refine sub_cons rfl ?_ | refine sub_cons' rfl (by simp) ?_) (by repeat first | exact .refl | exact .nil | exact .z | apply Pk.s | refine Ge.e ?_ | apply Ge.pick | apply Ge.drop) (hJr15 ⟨_, _, _, _, _, _, _, _, _, _, _, _⟩ hj)
                clear hK33
                refine cseq ?_; intro K35 hK35
                refine creg ?_
                refine y (ev_fieldAddr 0 rfl Try.underlying58 rfl Try.sizeOf3) rfl ?_
                refine y (ev_load rfl Try.isAgg3 (by repeat first | exact .z | apply In.s) rfl) rfl ?_
                refine ynil' (kthn (hK35 _ _ ?_))
                clear hK35
                refine cblock ?_
                refine cseq ?_; intro K36 hK36
                refine creg ?_
                refine y (ev_eql rfl rfl) rfl ?_
                refine y (ev_assign rfl) rfl ?_
                refine ynil' (kthn (hK36 _ _ ?_))
                clear hK36
                refine ccond rfl (fun h179 => ?_) (fun h179 => ?_)
                · (try simp only [decide_eq_true_eq, beq_iff_eq, beq_eq_false_iff_ne, decide_eq_decide, decide_eq_false_iff_not, Bool.not_eq_true', Bool.not_eq_false', Bool.not_eq_true, Bool.not_eq_false, Bool.not_not, ne_eq, Option.isNone_some, Option.isSome_some, Option.isNone_none, Option.isSome_none] at h179)
                  refine cseq ?_; intro K37 hK37
                  refine cdraw 7 [(0, true), (1, true), (2, true), (4, true), (5, true), (6, true), (3, false)] ([sc b15 a.cells 58] ++ R) Try.mixed (by kernel_rfl) (by repeat first | exact .refl | exact .nil | exact .z | apply Pk.s | refine Ge.e ?_ | apply Ge.pick | apply Ge.drop) ?_
                  refine hr rfl (ev_move rfl) rfl ?_
                  refine hr rfl (ev_fieldAddr 2 rfl Try.underlying58 rfl Try.sizeOf9) rfl ?_
                  refine hr rfl (ev_load rfl Try.isAgg9 (by repeat first | exact .z | apply In.s) rfl) rfl ?_
                  refine hr rfl (ev_move rfl) rfl ?_
                  refine hr rfl (ev_fieldAddr 2 rfl Try.underlying58 rfl Try.sizeOf9) rfl ?_
                  refine hr rfl (ev_load rfl Try.isAgg9 (by repeat first | exact .z | apply In.s) rfl) rfl ?_
                  refine hcall rfl (gAppend (s := a.s) (N := 2 * n + 4) (k := i + 1) ?ag186 ?ak186 ?as186) rfl Try.call27 (by repeat first | exact .nil | exact .z | apply Pk.s | apply Tk.cons) rfl ?_
                  case ag186 => exact hL
                  case ak186 => omega
                  case as186 => exact okl
                  rintro v L' ⟨s117, D117, l117, rfl, hG117, hl117, hf117, hz117, ok117, rfl⟩; refine ⟨(by repeat first | exact .refl | exact .nil | exact .z | apply Pk.s | refine Ge.e ?_ | apply Ge.pick | apply Ge.drop), ?_⟩
                  obtain ⟨hM2, eM2⟩ := hM.aside hG117.up (fun j j0 j1 jc => hf117 j (by have hm0 := Int.emod_nonneg (h + l.length) (show (n : Int) ≠ 0 by omega); have hm1 := Int.emod_lt_of_pos (h + l.length) (show (0 : Int) < n by omega); unfold inRing at jc; omega))
                  rw [show logD (4 + n) n 2 3 D hm 1 em lm = logD (4 + n) n 2 3 D117 hm 1 em lm by unfold logD; rw [eM2]]
                  refine hnil ?_
                  refine ycall (gAppend (s := a.s) (N := n + 2) (k := i + 1) ?ag187 ?ak187 ?as187) rfl Try.call27 (by repeat first | exact .nil | exact .z | apply Pk.s | apply Tk.cons) rfl ?_
                  case ag187 => exact hK
                  case ak187 => omega
                  case as187 => exact okk
                  rintro v L' ⟨s121, D121, l121, rfl, hG121, hl121, hf121, hz121, ok121, rfl⟩
                  obtain rfl : l121 = l117 := by rw [hl121, hl117]
                  have hj := And.intro (LtM.ok.mk (x := ⟨s117, sm, s121, D117, D121, h, le, ek, _, hm, em, lm⟩) hG117 hM2.up1 hG121) (And.intro ok117 (And.intro okm ok121))
                  clear hl117 hl121
                  refine y (ev_neq rfl rfl) rfl ?_
                  rw [show (!decide ((if 110 < (a.s.length : Int) then (3 : Int) else if n = l.length then 12 else 0) = (if 110 < (a.s.length : Int) then (3 : Int) else if n = l.length then 12 else 0))) = false by simp]
                  refine hnoP' (kthn (hK37 _ _ ?_))
                  clear hK37
                  refine ccond rfl (fun h189 => ?_) (fun h189 => ?_)
                  · (try simp only [decide_eq_true_eq, beq_iff_eq, beq_eq_false_iff_ne, decide_eq_decide, decide_eq_false_iff_not, Bool.not_eq_true', Bool.not_eq_false', Bool.not_eq_true, Bool.not_eq_false, Bool.not_not, ne_eq, Option.isNone_some, Option.isSome_some, Option.isNone_none, Option.isSome_none] at h189)
                    refine cseq ?_; intro K38 hK38
                    refine creg ?_
                    refine y (ev_assign rfl) rfl ?_
                    refine ynil' (kthn (hK38 _ _ ?_))
                    clear hK38
                    refine cret (kbr (kthr (kbr (kthr (kthr (kbr (kthr ?_)))))))
                    first
                      | (exfalso; omega; done)
                      | (refine kretv Try.results9 rfl (L1 := R) (by repeat first | exact .refl | exact .nil | exact .z | apply Pk.s | refine Ge.e ?_ | apply Ge.pick | apply Ge.drop) ?_
                         exact ⟨_, ⟨by first | rfl | (exfalso; simp_all; done), rfl⟩, by first | rfl | (exfalso; simp_all; done)⟩)
                  · (try simp only [decide_eq_true_eq, beq_iff_eq, beq_eq_false_iff_ne, decide_eq_decide, decide_eq_false_iff_not, Bool.not_eq_true', Bool.not_eq_false', Bool.not_eq_true, Bool.not_eq_false, Bool.not_not, ne_eq, Option.isNone_some, Option.isSome_some, Option.isNone_none, Option.isSome_none] at h189)
                    refine cskip' (kbn (kthn ?_))
                    exact ksub (by repeat first | exact sub_nil | refine sub_cons rfl ?_ | refine sub_cons' rfl (by simp) ?_) (by repeat first | exact .refl | exact .nil | exact .z | apply Pk.s | refine Ge.e ?_ | apply Ge.pick | apply Ge.drop) (hJr37 ⟨_, _, _, _, _, _, _, _, _, _, _, _⟩ hj)
                · (try simp only [decide_eq_true_eq, beq_iff_eq, beq_eq_false_iff_ne, decide_eq_decide, decide_eq_false_iff_not, Bool.not_eq_true', Bool.not_eq_false', Bool.not_eq_true, Bool.not_eq_false, Bool.not_not, ne_eq, Option.isNone_some, Option.isSome_some, Option.isNone_none, Option.isSome_none] at h179)
                  refine cseq ?_; intro K39 hK39
                  refine creg ?_
                  refine y (ev_eql rfl rfl) rfl ?_
                  refine y (ev_assign rfl) rfl ?_
                  refine ynil' (kthn (hK39 _ _ ?_))
                  clear hK39
                  refine ccond rfl (fun h193 => ?_) (fun h193 => ?_)
                  · (try simp only [decide_eq_true_eq, beq_iff_eq, beq_eq_false_iff_ne, decide_eq_decide, decide_eq_false_iff_not, Bool.not_eq_true', Bool.not_eq_false', Bool.not_eq_true, Bool.not_eq_false, Bool.not_not, ne_eq, Option.isNone_some, Option.isSome_some, Option.isNone_none, Option.isSome_none] at h193)
                    refine cseq ?_; intro K40 hK40
                    refine creg ?_
                    refine y (ev_move rfl) rfl ?_
                    refine ycall (gSync (N := 2 * n + 4) (k := i + 1) ?ag195 ?as195) rfl Try.call35 (by repeat first | exact .nil | exact .z | apply Pk.s | apply Tk.cons) rfl ?_
                    case ag195 => exact hL
                    case as195 => exact okl
                    rintro v L' ⟨D126, rfl, hG126, hes126, hf126, ok126, rfl⟩
                    obtain ⟨hM2, eM2⟩ := hM.aside hG126.up (fun j j0 j1 _ => hf126 j j0 j1)
                    rw [show logD (4 + n) n 2 3 D hm 1 em lm = logD (4 + n) n 2 3 D126 hm 1 em lm by unfold logD; rw [eM2]]
                    refine ynil' (kthn (hK40 _ _ ?_))
                    clear hK40
                    refine creg ?_
                    refine y (ev_move rfl) rfl ?_
                    refine ycall (gSync (N := n + 2) (k := i + 1) ?ag197 ?as197) rfl Try.call35 (by repeat first | exact .nil | exact .z | apply Pk.s | apply Tk.cons) rfl ?_
                    case ag197 => exact hK
                    case as197 => exact okk
                    rintro v L' ⟨D128, rfl, hG128, hes128, hf128, ok128, rfl⟩
                    have hj := And.intro (LtM.ok.mk (x := ⟨sl, sm, sk, D126, D128, h, le, ek, l, hm, em, lm⟩) hG126.up1 hM2.up1 hG128.up1) (And.intro ok126 (And.intro okm ok128))
                    refine ynil' (kbn (kthn ?_))
                    exact ksub (by repeat first | exact sub_nil | refine sub_cons rfl ?_ | refine sub_cons' rfl (by simp) ?_) (by repeat first | exact .refl | exact .nil | exact .z | apply Pk.s | refine Ge.e ?_ | apply Ge.pick | apply Ge.drop) (hJr37 ⟨_, _, _, _, _, _, _, _, _, _, _, _⟩ hj)
                  · (try simp only [decide_eq_true_eq, beq_iff_eq, beq_eq_false_iff_ne, decide_eq_decide, decide_eq_false_iff_not, Bool.not_eq_true', Bool.not_eq_false', Bool.not_eq_true, Bool.not_eq_false, Bool.not_not, ne_eq, Option.isNone_some, Option.isSome_some, Option.isNone_none, Option.isSome_none] at h193)
                    refine cseq ?_; intro K41 hK41
                    refine creg ?_
                    refine y (ev_eql rfl rfl) rfl ?_
                    refine y (ev_assign rfl) rfl ?_
                    refine ynil' (kthn (hK41 _ _ ?_))
                    clear hK41
                    refine ccond rfl (fun h200 => ?_) (fun h200 => ?_)
                    · (try simp only [decide_eq_true_eq, beq_iff_eq, beq_eq_false_iff_ne, decide_eq_decide, decide_eq_false_iff_not, Bool.not_eq_true', Bool.not_eq_false', Bool.not_eq_true, Bool.not_eq_false, Bool.not_not, ne_eq, Option.isNone_some, Option.isSome_some, Option.isNone_none, Option.isSome_none] at h200)
                      refine cseq ?_; intro K42 hK42
                      refine cdraw 15 [(0, true), (1, true), (3, true), (4, true), (5, true), (8, true), (9, true), (11, true), (12, true), (13, true), (2, false), (6, true), (7, false), (10, false), (14, true)] ([sc b15 a.cells 58] ++ R) Try.mixed (by kernel_rfl) (by repeat first | exact .refl | exact .nil | exact .z | apply Pk.s | refine Ge.e ?_ | apply Ge.pick | apply Ge.drop) ?_
                      refine hr rfl (ev_move rfl) rfl ?_
                      refine hr rfl (ev_move rfl) rfl ?_
                      refine hr rfl (ev_fieldAddr 1 rfl Try.underlying58 rfl Try.sizeOf3) rfl ?_
                      refine hr rfl (ev_load rfl Try.isAgg3 (by repeat first | exact .z | apply In.s) rfl) rfl ?_
                      refine hr rfl (ev_and rfl rfl) rfl ?_
                      obtain ⟨hz0, hz1⟩ := and31 a.n; obtain ⟨z, hz⟩ : ∃ z, bAnd .i64 a.n 31 = z := ⟨_, rfl⟩; rw [hz] at hz0 hz1 ⊢
                      refine hr rfl (ev_move rfl) rfl ?_
                      refine hr rfl (ev_move rfl) rfl ?_
                      refine hr rfl (ev_fieldAddr 1 rfl Try.underlying58 rfl Try.sizeOf3) rfl ?_
                      refine hr rfl (ev_load rfl Try.isAgg3 (by repeat first | exact .z | apply In.s) rfl) rfl ?_
                      refine hr rfl (ev_and rfl rfl) rfl ?_
                      rw [hz]
                      refine hcall rfl (bHead) rfl Try.call29 (by repeat first | exact .nil | exact .z | apply Pk.s | apply Tk.cons) rfl ?_
                      rintro v L' ⟨rfl, rfl⟩; refine ⟨(by repeat first | exact .refl | exact .nil | exact .z | apply Pk.s | refine Ge.e ?_ | apply Ge.pick | apply Ge.drop), ?_⟩
                      refine hr rfl (ev_add rfl rfl) rfl ?_
                      rw [show (logD 4 n 0 1 D h 1 le l).head = h from rfl, wr (by omega) (by omega)]
                      refine hcall rfl (gTrim (m := h + z) (N := 2 * n + 4) (k := i + 1) ?ag213 ?ak213 ?as213) rfl Try.call28 (by repeat first | exact .nil | exact .z | apply Pk.s | apply Tk.cons) rfl ?_
                      case ag213 => exact hL
                      case ak213 => omega
                      case as213 => exact okl
                      rintro v L' ⟨s138, D138, h138, e138, l138, rfl, hG138, hh138, hl138, hf138, ok138, rfl⟩; refine ⟨(by repeat first | exact .refl | exact .nil | exact .z | apply Pk.s | refine Ge.e ?_ | apply Ge.pick | apply Ge.drop), ?_⟩
                      obtain ⟨hM2, eM2⟩ := hM.aside hG138.up (fun j j0 j1 jc => hf138 j j0 j1 (by unfold inRing at jc; omega) (by unfold inRing at jc; omega))
                      rw [show logD (4 + n) n 2 3 D hm 1 em lm = logD (4 + n) n 2 3 D138 hm 1 em lm by unfold logD; rw [eM2]]
                      refine hcall rfl (bHead) rfl Try.call29 (by repeat first | exact .nil | exact .z | apply Pk.s | apply Tk.cons) rfl ?_
                      rintro v L' ⟨rfl, rfl⟩; refine ⟨(by repeat first | exact .refl | exact .nil | exact .z | apply Pk.s | refine Ge.e ?_ | apply Ge.pick | apply Ge.drop), ?_⟩
                      refine hr rfl (ev_add rfl rfl) rfl ?_
                      rw [show (logD 2 n 0 1 E h 1 ek l).head = h from rfl, wr (by omega) (by omega)]
                      refine hnil ?_
                      refine ycall (gTrim (m := h + z) (N := n + 2) (k := i + 1) ?ag216 ?ak216 ?as216) rfl Try.call28 (by repeat first | exact .nil | exact .z | apply Pk.s | apply Tk.cons) rfl ?_
                      case ag216 => exact hK
                      case ak216 => omega
                      case as216 => exact okk
                      rintro v L' ⟨s146, D146, h146, e146, l146, rfl, hG146, hh146, hl146, hf146, ok146, rfl⟩
                      obtain rfl : l146 = l138 := by rw [hl146, hl138]
                      obtain rfl : h146 = h138 := by rw [hh146, hh138]
                      have hj := And.intro (LtM.ok.mk (x := ⟨s138, sm, s146, D138, D146, _, e138, e146, _, hm, em, lm⟩) hG138 hM2.up1 hG146) (And.intro ok138 (And.intro okm ok146))
                      clear hl138 hl146 hh138 hh146
                      refine y (ev_neq rfl rfl) rfl ?_
                      rw [show (!decide ((if h ≤ h + z ∧ h + z ≤ h + l.length then (0 : Int) else 1) = (if h ≤ h + z ∧ h + z ≤ h + l.length then (0 : Int) else 1))) = false by simp]
                      refine hnoP' (kthn (hK42 _ _ ?_))
                      clear hK42
                      refine ccond rfl (fun h218 => ?_) (fun h218 => ?_)
                      · (try simp only [decide_eq_true_eq, beq_iff_eq, beq_eq_false_iff_ne, decide_eq_decide, decide_eq_false_iff_not, Bool.not_eq_true', Bool.not_eq_false', Bool.not_eq_true, Bool.not_eq_false, Bool.not_not, ne_eq, Option.isNone_some, Option.isSome_some, Option.isNone_none, Option.isSome_none] at h218)
                        refine cseq ?_; intro K43 hK43
                        refine creg ?_
                        refine y (ev_assign rfl) rfl ?_
                        refine ynil' (kthn (hK43 _ _ ?_))
                        clear hK43
                        refine cret (kbr (kthr (kbr (kthr (kthr (kbr (kthr ?_)))))))
                        first
                          | (exfalso; omega; done)
                          | (refine kretv Try.results9 rfl (L1 := R) (by repeat first | exact .refl | exact .nil | exact .z | apply Pk.s | refine Ge.e ?_ | apply Ge.pick | apply Ge.drop) ?_
                             exact ⟨_, ⟨by first | rfl | (exfalso; simp_all; done), rfl⟩, by first | rfl | (exfalso; simp_all; done)⟩)
                      · (try simp only [decide_eq_true_eq, beq_iff_eq, beq_eq_false_iff_ne, decide_eq_decide, decide_eq_false_iff_not, Bool.not_eq_true', Bool.not_eq_false', Bool.not_eq_true, Bool.not_eq_false, Bool.not_not, ne_eq, Option.isNone_some, Option.isSome_some, Option.isNone_none, Option.isSome_none] at h218)
                        refine cskip' (kbn (kthn ?_))
                        exact ksub (by repeat first | exact sub_nil | refine sub_cons rfl ?_ | refine sub_cons' rfl (by simp) ?_) (by repeat first | exact .refl | exact .nil | exact .z | apply Pk.s | refine Ge.e ?_ | apply Ge.pick | apply Ge.drop) (hJr37 ⟨_, _, _, _, _, _, _, _, _, _, _, _⟩ hj)
                    · (try simp only [decide_eq_true_eq, beq_iff_eq, beq_eq_false_iff_ne, decide_eq_decide, decide_eq_false_iff_not, Bool.not_eq_true', Bool.not_eq_false', Bool.not_eq_true, Bool.not_eq_false, Bool.not_not, ne_eq, Option.isNone_some, Option.isSome_some, Option.isNone_none, Option.isSome_none] at h200)
                      have hj := And.intro (LtM.ok.mk (x := ⟨sl, sm, sk, D, E, h, le, ek, l, hm, em, lm⟩) hL.up1 hM.up1 hK.up1) (And.intro okl (And.intro okm okk))
                      refine cskip' (kbn (kthn ?_))
                      exact ksub (by repeat first | exact sub_nil | refine sub_cons rfl ?_ | refine sub_cons' rfl (by simp) ?_) (by repeat first | exact .refl | exact .nil | exact .z | apply Pk.s | refine Ge.e ?_ | apply Ge.pick | apply Ge.drop) (hJr37 ⟨_, _, _, _, _, _, _, _, _, _, _, _⟩ hj)
          · (try simp only [decide_eq_true_eq, beq_iff_eq, beq_eq_false_iff_ne, decide_eq_decide, decide_eq_false_iff_not, Bool.not_eq_true', Bool.not_eq_false', Bool.not_eq_true, Bool.not_eq_false, Bool.not_not, ne_eq, Option.isNone_some, Option.isSome_some, Option.isNone_none, Option.isSome_none] at h112)
            refine cexit (kthx (kthx (kbx (kthn ?_))))
            exact ksub (by repeat first | exact sub_nil | refine sub_cons rfl ?_ | refine sub_cons' rfl (by simp) ?_) (by repeat first | exact .refl | exact .nil | exact .z | apply Pk.s | refine Ge.e ?_ | apply Ge.pick | apply Ge.drop) (hJ1 ⟨i, sl, sm, sk, D, E, h, le, ek, l, hm, em, lm⟩ ⟨hI1o, by first | trivial | omega⟩)
        · (try simp only [decide_eq_true_eq, beq_iff_eq, beq_eq_false_iff_ne, decide_eq_decide, decide_eq_false_iff_not, Bool.not_eq_true', Bool.not_eq_false', Bool.not_eq_true, Bool.not_eq_false, Bool.not_not, ne_eq, Option.isNone_some, Option.isSome_some, Option.isNone_none, Option.isSome_none] at h108)
          refine yg0 rfl rfl rfl rfl ?_
          refine yg0 rfl rfl rfl rfl ?_
          refine y (ev_pick0 rfl rfl) rfl ?_
          refine ynil' (kthn (hK20 _ _ ?_))
          clear hK20
          refine ccond0 rfl ?_
          refine cexit (kthx (kthx (kbx (kthn ?_))))
          exact ksub (by repeat first | exact sub_nil | refine sub_cons rfl ?_ | refine sub_cons' rfl (by simp) ?_) (by repeat first | exact .refl | exact .nil | exact .z | apply Pk.s | refine Ge.e ?_ | apply Ge.pick | apply Ge.drop) (hJ1 ⟨i, sl, sm, sk, D, E, h, le, ek, l, hm, em, lm⟩ ⟨hI1o, by first | trivial | omega⟩)
end W
end Go.Proofs
