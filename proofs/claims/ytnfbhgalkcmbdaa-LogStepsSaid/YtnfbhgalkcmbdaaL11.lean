/- A part of the proof: contracts and plain lemmas, each without conditions beyond those that it names. -/
import Derived.Test.YtnfbhgalkcmbdaaL8
import Derived.Test.YtnfbhgalkcmbdaaGM
set_option linter.unusedVariables false
set_option linter.unusedSimpArgs false
set_option linter.constructorNameAsVariable false
namespace Go.Proofs
open Go Go.Sl
namespace W
set_option linter.unusedVariables false
theorem lawLSteps [Env] {R : List Seg} {bv : Int} {lv : Value} {acts : List ActL} (hb : 0 ≤ bv ∧ bv ≤ 255) (hl : RdV R lv acts.length (actlsV acts)) (haa : ∀ a ∈ acts, a.ok R) :
    Con Try.prog 10 [.int .u8 bv, lv] [] R (Is (.bool true) []) := by
  have hvl := hl.lenVal
  refine con_enter Try.func10 Try.ntmps10 rfl rfl ?_
  refine cseq ?_; intro K1 hK1
  refine creg ?_
  refine y (ev_assign rfl) rfl ?_
  refine ynil' (kthn (hK1 _ _ ?_))
  clear hK1
  refine cseq ?_; intro K2 hK2
  refine cseq ?_; intro K3 hK3
  refine creg ?_
  refine ycall (awake6) rfl Try.call25 (by repeat first | exact .nil | exact .z | apply Pk.s | apply Tk.cons) rfl ?_
  rintro v L' ⟨rfl, rfl⟩
  skip
  · skip
    refine y (ev_not rfl) rfl ?_
    refine ynil' (kthn (hK3 _ _ ?_))
    clear hK3
    refine ccond0 rfl ?_
    refine cskip' (kthn (hK2 _ _ ?_))
    clear hK2
    refine cseq ?_; intro K4 hK4
    refine creg ?_
    refine y (ev_move rfl) rfl ?_
    refine y (ev_rem rfl rfl (by decide)) rfl ?_
    refine y (ev_conv rfl Try.underlying5 Try.underlying3) rfl ?_
    refine y (ev_add rfl rfl) rfl ?_
    rw [nRing_eq hb.1 hb.2]; obtain ⟨n2, n20⟩ := nRing_le bv; obtain ⟨n, hn0⟩ : ∃ n, nRing bv = n := ⟨_, rfl⟩; rw [hn0] at n2 n20 ⊢
    have hG0 : LDev 2 n 0 1 (Dev.new (n + 2)) (n + 2) 0 1 0 0 [] := new_ldev (by omega) n2 ⟨by decide, by omega⟩ (by decide) ⟨by decide, by omega⟩ ⟨by decide, by omega⟩ (by unfold inRing; omega) (by unfold inRing; omega)
    refine y (ev_assign rfl) rfl ?_
    refine ynil' (kthn (hK4 _ _ ?_))
    clear hK4
    refine cseq ?_; intro K5 hK5
    refine creg ?_
    refine y (ev_move rfl) rfl ?_
    refine y (ev_add rfl rfl) rfl ?_
    rw [wr (by omega) (by omega), show (n : Int) + 2 = ((n + 2 : Nat) : Int) by omega]
    refine ycall (secNew (n := n + 2) (by omega)) rfl Try.call12 (by repeat first | exact .nil | exact .z | apply Pk.s | apply Tk.cons) rfl ?_
    rintro v L' ⟨q24, rfl, rfl⟩
    refine y (ev_assign rfl) rfl ?_
    refine ynil' (kthn (hK5 _ _ ?_))
    clear hK5
    refine cseq ?_; intro K6 hK6
    refine cseq ?_; intro K7 hK7
    refine creg ?_
    refine y (ev_move rfl) rfl ?_
    skip
    · skip
      refine y (ev_eqlPnil rfl rfl Try.underlying24) rfl ?_
      refine ynil' (kthn (hK7 _ _ ?_))
      clear hK7
      refine ccond0 rfl ?_
      refine cskip' (kthn (hK6 _ _ ?_))
      clear hK6
      refine cseq ?_; intro K8 hK8
      refine creg ?_
      refine y (ev_move rfl) rfl ?_
      refine y (ev_move rfl) rfl ?_
      refine ycall (gOpen hG0 (by decide) rfl) rfl Try.call26 (by repeat first | exact .nil | exact .z | apply Pk.s | apply Tk.cons) rfl ?_
      rintro v L' ⟨D1, p30, c30, s30, rfl, hG1, hf30, ok30, rfl⟩
      refine y (ev_move rfl) rfl ?_
      refine y (ev_extract rfl rfl) rfl ?_
      refine y (ev_extract rfl rfl) rfl ?_
      refine y (ev_assign rfl) rfl ?_
      refine y (ev_assign rfl) rfl ?_
      refine ynil' (kthn (hK8 _ _ ?_))
      clear hK8
      refine cseq ?_; intro K9 hK9
      refine cseq ?_; intro K10 hK10
      refine creg ?_
      refine y (ev_assign rfl) rfl ?_
      refine ynil' (kthn (hK10 _ _ ?_))
      clear hK10
      have hJ1 : ∀ x : Nat × Sv × LogM × Dev, ((LogI x.2.2.1 x.2.2.2 (x.1 + 1) ∧ itOk x.2.1 x.2.2.1 ∧ x.2.2.1.n = n ∧ x.1 ≤ acts.length ∧ x.1 ≤ 60) ∧ (True)) → Sk 169 K9 ([(9, i64 x.1), (7, ptr p30), (6, dp q24), (5, i64 n), (1, lv)]) ([logG p30 c30 q24 x.2.1 x.2.2.1, dev q24 x.2.2.2] ++ R) := by
        rintro ⟨i, sl, L, D⟩ ⟨hI1, hX1⟩
        refine hK9 _ _ ?_
        obtain ⟨hI, ok, hn, hi1, hi2⟩ := hI1; dsimp only at hI ok hn hi1 hi2 ⊢; have hlok := hI.ok; have hl5 := items_len hlok; have hh1 := hlok.head; have htl := hI.tl; have htd : L.tail = L.head + L.l.length := rfl
        skip
        refine cseq ?_; intro K11 hK11
        refine creg ?_
        refine y (ev_assign rfl) rfl ?_
        refine ynil' (kthn (hK11 _ _ ?_))
        clear hK11
        refine cret ?_
        first
          | (exfalso; omega; done)
          | (refine kretv Try.results10 rfl (L1 := R) (by repeat first | exact .refl | exact .nil | exact .z | apply Pk.s | refine Ge.e ?_ | apply Ge.pick | apply Ge.drop) ?_
             exact ⟨_, ⟨by first | rfl | (exfalso; simp_all; done), rfl⟩, by first | rfl | (exfalso; simp_all; done)⟩)
      clear hK9
      refine cblock ?_
      refine cloop (A := Nat × Sv × LogM × Dev) (fun x => [(9, i64 x.1), (7, ptr p30), (6, dp q24), (5, i64 n), (1, lv)]) (fun x => [logG p30 c30 q24 x.2.1 x.2.2.1, dev q24 x.2.2.2] ++ R) (fun x => LogI x.2.2.1 x.2.2.2 (x.1 + 1) ∧ itOk x.2.1 x.2.2.1 ∧ x.2.2.1.n = n ∧ x.1 ≤ acts.length ∧ x.1 ≤ 60) (fun x => 60 - x.1) ((0, s30, logD 2 n 0 1 D1 1 (0 + 1) 0 [], D1)) ?_ (by repeat first | exact sub_nil | refine sub_cons rfl ?_ | refine sub_cons' rfl (by simp) ?_) (by repeat first | exact .refl | exact .nil | exact .z | apply Pk.s | refine Ge.e ?_ | apply Ge.pick | apply Ge.drop) ?_
      · exact ⟨hG1.logI (by decide), ok30, rfl, Nat.zero_le _, Nat.zero_le _⟩
      rintro ⟨i, sl, L, D⟩ hI1 KL1 hL1
      have hI1o := hI1
      obtain ⟨hI, ok, hn, hi1, hi2⟩ := hI1; dsimp only at hI ok hn hi1 hi2 ⊢; have hlok := hI.ok; have hl5 := items_len hlok; have hh1 := hlok.head; have htl := hI.tl; have htd : L.tail = L.head + L.l.length := rfl
      refine cseq ?_; intro K12 hK12
      refine cseq ?_; intro K13 hK13
      refine creg ?_
      refine y (ev_move rfl) rfl ?_
      refine y (ev_move rfl) rfl ?_
      first
        | refine y (ev_len rfl Try.underlying55) rfl ?_
        | refine y (ev_lenSv rfl Try.underlying55 (by assumption)) rfl ?_
        | refine y (ev_lenV rfl Try.underlying55 (RdV.lenVal (by assumption))) rfl ?_
        | refine y (ev_lenV rfl Try.underlying55 (RdB.lenVal (by assumption))) rfl ?_
      refine y (ev_lss rfl rfl) rfl ?_
      refine y (ev_move rfl) rfl ?_
      refine ysplit 37 rfl (fun h30 => ?_) (fun h30 => ?_)
      · (try simp only [decide_eq_true_eq, beq_iff_eq, beq_eq_false_iff_ne, decide_eq_decide, decide_eq_false_iff_not, Bool.not_eq_true', Bool.not_eq_false', Bool.not_eq_true, Bool.not_eq_false, Bool.not_not, ne_eq, Option.isNone_some, Option.isSome_some, Option.isNone_none, Option.isSome_none] at h30)
        refine yg1 rfl rfl ?_
        refine y (ev_move rfl) rfl ?_
        refine yg1 rfl rfl ?_
        refine y (ev_lss rfl rfl) rfl ?_
        refine y (ev_pick1 rfl rfl) rfl ?_
        refine ynil' (kthn (hK13 _ _ ?_))
        clear hK13
        refine ccond rfl (fun h34 => ?_) (fun h34 => ?_)
        · (try simp only [decide_eq_true_eq, beq_iff_eq, beq_eq_false_iff_ne, decide_eq_decide, decide_eq_false_iff_not, Bool.not_eq_true', Bool.not_eq_false', Bool.not_eq_true, Bool.not_eq_false, Bool.not_not, ne_eq, Option.isNone_some, Option.isSome_some, Option.isNone_none, Option.isSome_none] at h34)
          refine cskip' (kthn (hK12 _ _ ?_))
          clear hK12
          refine cseq ?_; intro K14 hK14
          refine cblock ?_
          refine cseq ?_; intro K15 hK15
          refine creg ?_
          obtain ⟨a, hka⟩ : ∃ a, acts[i]? = some a := ⟨_, List.getElem?_eq_getElem (by omega)⟩
          have hact := haa a (List.mem_of_getElem? hka)
          refine y (ev_move rfl) rfl ?_
          refine y (ev_move rfl) rfl ?_
          refine y (ev_ixV hl rfl rfl Try.underlying55 Try.sizeOf58 (by omega) (by omega)) rfl ?_
          refine y (ev_loadNV (us := a.cells) (i * 4) hl (by repeat first | exact .refl | exact .nil | exact .z | apply Pk.s | refine Ge.e ?_ | apply Ge.pick | apply Ge.drop) rfl Try.isAgg58 Try.sizeOf58 (by simp) (actlsV_get hka) rfl) rfl ?_
          refine ya (ac_alloc Try.zeroValue58 rfl) rfl ?_
          rintro v L' ⟨b10, rfl, rfl⟩
          refine ya0 (ac_storeAll rfl rfl hact.one Try.sizeOf58 (by repeat first | exact .z | apply Rp.s) (by rfl) (by rfl)) ?_
          rintro v L' ⟨rfl, rfl⟩
          refine ynil' (kthn (hK15 _ _ ?_))
          clear hK15
          refine cseq ?_; intro K16 hK16
          refine cseq ?_; intro K17 hK17
          refine creg ?_
          refine y (ev_move rfl) rfl ?_
          skip
          · skip
            refine y (ev_eqlPnil rfl rfl Try.underlying46) rfl ?_
            refine y (ev_move rfl) rfl ?_
            refine yg1 rfl rfl ?_
            refine y (ev_loadN (u := a.cells) rfl Try.isAgg58 Try.sizeOf58 (by repeat first | exact .z | apply In.s) rfl rfl) rfl ?_
            refine yg1 rfl rfl ?_
            refine ycall (nLarge (x := a) ?lx45) rfl Try.call34 (by repeat first | exact .nil | exact .z | apply Pk.s | apply Tk.cons) rfl ?_
            case lx45 => exact hact.mono (by repeat first | exact .refl | exact .nil | exact .z | apply Pk.s | refine Ge.e ?_ | apply Ge.pick | apply Ge.drop)
            rintro v L' ⟨big51, rfl, hbig51, rfl⟩
            refine y (ev_pick0 rfl rfl) rfl ?_
            refine ynil' (kthn (hK17 _ _ ?_))
            clear hK17
            refine ccond rfl (fun h47 => ?_) (fun h47 => ?_)
            · (try simp only [decide_eq_true_eq, beq_iff_eq, beq_eq_false_iff_ne, decide_eq_decide, decide_eq_false_iff_not, Bool.not_eq_true', Bool.not_eq_false', Bool.not_eq_true, Bool.not_eq_false, Bool.not_not, ne_eq, Option.isNone_some, Option.isSome_some, Option.isNone_none, Option.isSome_none] at h47)
              refine cseq ?_; intro K18 hK18
              refine creg ?_
              refine y (ev_move rfl) rfl ?_
              refine y (ev_neqPnil rfl rfl Try.underlying46) rfl ?_
              refine y (ev_assign rfl) rfl ?_
              refine ynil' (kthn (hK18 _ _ ?_))
              clear hK18
              refine cret (kthr (kbr (kthr (kthr (kbr (kthr ?_))))))
              first
                | (exfalso; omega; done)
                | (refine kretv Try.results10 rfl (L1 := R) (by repeat first | exact .refl | exact .nil | exact .z | apply Pk.s | refine Ge.e ?_ | apply Ge.pick | apply Ge.drop) ?_
                   exact ⟨_, ⟨by first | rfl | (exfalso; simp_all; done), rfl⟩, by first | rfl | (exfalso; simp_all; done)⟩)
            · (try simp only [decide_eq_true_eq, beq_iff_eq, beq_eq_false_iff_ne, decide_eq_decide, decide_eq_false_iff_not, Bool.not_eq_true', Bool.not_eq_false', Bool.not_eq_true, Bool.not_eq_false, Bool.not_not, ne_eq, Option.isNone_some, Option.isSome_some, Option.isNone_none, Option.isSome_none] at h47)
              refine cskip' (kthn (hK16 _ _ ?_))
              clear hK16
              refine cseq ?_; intro K19 hK19
              refine creg ?_
              refine y (ev_move rfl) rfl ?_
              refine ycall (bHead) rfl Try.call29 (by repeat first | exact .nil | exact .z | apply Pk.s | apply Tk.cons) rfl ?_
              rintro v L' ⟨rfl, rfl⟩
              refine y (ev_move rfl) rfl ?_
              refine ycall (bTail ?ta54 ?tb54 ?tc54 ?td54) rfl Try.call39 (by repeat first | exact .nil | exact .z | apply Pk.s | apply Tk.cons) rfl ?_
              case ta54 => assumption
              case tb54 => omega
              case tc54 => omega
              case td54 => omega
              rintro v L' ⟨rfl, rfl⟩
              refine y (ev_assign rfl) rfl ?_
              refine y (ev_assign rfl) rfl ?_
              refine ynil' (kthn (hK19 _ _ ?_))
              clear hK19
              refine cseq ?_; intro K20 hK20
              have hJr31 : ∀ x : Sv × LogM × Dev, (LogI x.2.1 x.2.2 (i + 2) ∧ itOk x.1 x.2.1 ∧ x.2.1.n = n) → Sk 169 K20 ([(9, i64 i), (7, ptr p30), (6, dp q24), (5, i64 n), (1, lv)]) ([logG p30 c30 q24 x.1 x.2.1, dev q24 x.2.2] ++ R) := by
                rintro ⟨sl, L, D⟩ hIr31
                refine hK20 _ _ ?_
                obtain ⟨hI, ok, hn⟩ := hIr31; dsimp only at hI ok hn ⊢; have hlok := hI.ok; have hl5 := items_len hlok; have hn5 := LogM.n_le hlok; have hh1 := hlok.head; have htl := hI.tl; have htd : L.tail = L.head + L.l.length := rfl; have hi3 : i < 60 ∧ i < acts.length := by omega
                refine cseq ?_; intro K21 hK21
                refine creg ?_
                refine y (ev_move rfl) rfl ?_
                skip
                · skip
                  refine ycall (bTail ?ta58 ?tb58 ?tc58 ?td58) rfl Try.call39 (by repeat first | exact .nil | exact .z | apply Pk.s | apply Tk.cons) rfl ?_
                  case ta58 => assumption
                  case tb58 => omega
                  case tc58 => omega
                  case td58 => omega
                  rintro v L' ⟨rfl, rfl⟩
                  refine y (ev_move rfl) rfl ?_
                  refine ycall (bHead) rfl Try.call29 (by repeat first | exact .nil | exact .z | apply Pk.s | apply Tk.cons) rfl ?_
                  rintro v L' ⟨rfl, rfl⟩
                  refine y (ev_move rfl) rfl ?_
                  refine ycall (bRecords ?ra62 ?rb62) rfl Try.call31 (by repeat first | exact .nil | exact .z | apply Pk.s | apply Tk.cons) rfl ?_
                  case ra62 => assumption
                  case rb62 => exact hl5
                  rintro v L' ⟨s150, rfl, ok150, rfl⟩
                  refine y (ev_lenSv rfl Try.underlying45 ok150) rfl ?_
                  refine y (ev_add rfl rfl) rfl ?_
                  rw [show IntKind.i64.wrap (L.head + ((L.l.map (·.1)).length : Int)) = L.tail by rw [List.length_map, wr (by omega) (by omega)]; rfl]
                  refine y (ev_neq rfl rfl) rfl ?_
                  rw [show (!decide (L.tail = L.tail)) = false by simp]
                  refine y (ev_move rfl) rfl ?_
                  refine yg1 rfl rfl ?_
                  refine y (ev_move rfl) rfl ?_
                  refine yg1 rfl rfl ?_
                  refine ycall (bFree ?fa68 ?fb68 ?fc68) rfl Try.call32 (by repeat first | exact .nil | exact .z | apply Pk.s | apply Tk.cons) rfl ?_
                  case fa68 => assumption
                  case fb68 => exact hn5
                  case fc68 => exact hl5
                  rintro v L' ⟨rfl, rfl⟩
                  refine yg1 rfl rfl ?_
                  refine y (ev_move rfl) rfl ?_
                  refine yg1 rfl rfl ?_
                  refine y (ev_move rfl) rfl ?_
                  refine yg1 rfl rfl ?_
                  refine ycall (bRecords ?ra71 ?rb71) rfl Try.call31 (by repeat first | exact .nil | exact .z | apply Pk.s | apply Tk.cons) rfl ?_
                  case ra71 => assumption
                  case rb71 => exact hl5
                  rintro v L' ⟨s159, rfl, ok159, rfl⟩
                  refine yg1 rfl rfl ?_
                  refine y (ev_lenSv rfl Try.underlying45 ok159) rfl ?_
                  refine yg1 rfl rfl ?_
                  refine y (ev_sub rfl rfl) rfl ?_
                  rw [show IntKind.i64.wrap ((n : Int) - ((L.l.map (·.1)).length : Int)) = (L.n : Int) - L.l.length by rw [List.length_map, wr (by omega) (by omega), hn]]
                  refine yg1 rfl rfl ?_
                  refine y (ev_neq rfl rfl) rfl ?_
                  rw [show (!decide ((L.n : Int) - L.l.length = (L.n : Int) - L.l.length)) = false by simp]
                  refine y (ev_pick0 rfl rfl) rfl ?_
                  refine y (ev_move rfl) rfl ?_
                  refine yg1 rfl rfl ?_
                  refine y (ev_move rfl) rfl ?_
                  refine yg1 rfl rfl ?_
                  refine ycall (bHead) rfl Try.call29 (by repeat first | exact .nil | exact .z | apply Pk.s | apply Tk.cons) rfl ?_
                  rintro v L' ⟨rfl, rfl⟩
                  refine yg1 rfl rfl ?_
                  refine y (ev_lss rfl rfl) rfl ?_
                  rw [show (decide (L.head < 1)) = false by simp; omega]
                  refine y (ev_pick0 rfl rfl) rfl ?_
                  refine ynil' (kthn (hK21 _ _ ?_))
                  clear hK21
                  refine ccond0 rfl ?_
                  refine cskip' (kbn (kthn (hK14 _ _ ?_)))
                  clear hK14
                  refine creg ?_
                  refine y (ev_move rfl) rfl ?_
                  refine y (ev_add rfl rfl) rfl ?_
                  rw [show IntKind.i64.wrap ((i:Int) + 1) = ((i+1 : Nat) : Int) by rw [wr (by omega) (by omega)]; rfl]
                  refine y (ev_assign rfl) rfl ?_
                  refine ynil' (kthn ?_)
                  exact hL1 ((i + 1, sl, L, D)) (⟨hI, ok, hn, by dsimp only; omega, by dsimp only; omega⟩) (by dsimp only; omega) _ _ (by repeat first | exact sub_nil | refine sub_cons rfl ?_ | refine sub_cons' rfl (by simp) ?_) (by repeat first | exact .refl | exact .nil | exact .z | apply Pk.s | refine Ge.e ?_ | apply Ge.pick | apply Ge.drop)
              clear hK20
              refine cseq ?_; intro K22 hK22
              refine creg ?_
              refine y (ev_fieldAddr 0 rfl Try.underlying58 rfl Try.sizeOf3) rfl ?_
              refine y (ev_load rfl Try.isAgg3 (by repeat first | exact .z | apply In.s) rfl) rfl ?_
              refine ynil' (kthn (hK22 _ _ ?_))
              clear hK22
              refine cblock ?_
              refine cseq ?_; intro K23 hK23
              refine creg ?_
              refine y (ev_eql rfl rfl) rfl ?_
              refine y (ev_assign rfl) rfl ?_
              refine ynil' (kthn (hK23 _ _ ?_))
              clear hK23
              refine ccond rfl (fun h88 => ?_) (fun h88 => ?_)
              · (try simp only [decide_eq_true_eq, beq_iff_eq, beq_eq_false_iff_ne, decide_eq_decide, decide_eq_false_iff_not, Bool.not_eq_true', Bool.not_eq_false', Bool.not_eq_true, Bool.not_eq_false, Bool.not_not, ne_eq, Option.isNone_some, Option.isSome_some, Option.isNone_none, Option.isSome_none] at h88)
                refine cseq ?_; intro K24 hK24
                refine creg ?_
                refine y (ev_move rfl) rfl ?_
                refine y (ev_fieldAddr 2 rfl Try.underlying58 rfl Try.sizeOf9) rfl ?_
                refine y (ev_load rfl Try.isAgg9 (by repeat first | exact .z | apply In.s) rfl) rfl ?_
                refine ycall (bAppend (s := a.s) ?al92 ?as92) rfl Try.call27 (by repeat first | exact .nil | exact .z | apply Pk.s | apply Tk.cons) rfl ?_
                case al92 => exact hlok
                case as92 => exact ok
                rintro v L' ⟨s66, rfl, ok66, rfl⟩
                obtain ⟨hI2, hh2, hn2, he0, he1⟩ := hI.append a.s
                obtain ⟨r, hr0⟩ : ∃ r, L.append D a.s = r := ⟨_, rfl⟩
                rw [hr0] at hI2 hh2 hn2 he0 he1 ok66 ⊢
                obtain ⟨e, L2, D2⟩ := r
                dsimp only at hI2 hh2 hn2 he0 he1 ok66 ⊢
                have hl52 := items_len hI2.ok; have hh12 := hI2.ok.head; have htl2 := hI2.tl; have htd2 : L2.tail = L2.head + L2.l.length := rfl
                have hj := And.intro hI2 (And.intro ok66 (hn2.trans hn))
                refine y (ev_assign rfl) rfl ?_
                refine ynil' (kthn (hK24 _ _ ?_))
                clear hK24
                refine cseq ?_; intro K25 hK25
                refine creg ?_
                refine y (ev_move rfl) rfl ?_
                skip
                · skip
                  refine ycall (bHead) rfl Try.call29 (by repeat first | exact .nil | exact .z | apply Pk.s | apply Tk.cons) rfl ?_
                  rintro v L' ⟨rfl, rfl⟩
                  refine y (ev_move rfl) rfl ?_
                  refine y (ev_neq rfl rfl) rfl ?_
                  rw [hh2, show (!decide (L.head = L.head)) = false by simp]
                  refine y (ev_move rfl) rfl ?_
                  refine yg1 rfl rfl ?_
                  refine y (ev_move rfl) rfl ?_
                  refine yg1 rfl rfl ?_
                  refine y (ev_eql rfl rfl) rfl ?_
                  refine yg1 rfl rfl ?_
                  refine y (ev_move rfl) rfl ?_
                  refine yg1 rfl rfl ?_
                  refine ycall (bTail ?ta102 ?tb102 ?tc102 ?td102) rfl Try.call39 (by repeat first | exact .nil | exact .z | apply Pk.s | apply Tk.cons) rfl ?_
                  case ta102 => assumption
                  case tb102 => omega
                  case tc102 => omega
                  case td102 => omega
                  rintro v L' ⟨rfl, rfl⟩
                  refine yg1 rfl rfl ?_
                  refine y (ev_move rfl) rfl ?_
                  refine yg1 rfl rfl ?_
                  refine y (ev_add rfl rfl) rfl ?_
                  rw [wr (by omega) (by omega)]
                  refine yg1 rfl rfl ?_
                  refine y (ev_eql rfl rfl) rfl ?_
                  refine yg1 rfl rfl ?_
                  refine y (ev_neqB rfl rfl Try.underlying4) rfl ?_
                  rw [show (!((decide (e = 0)) == (decide (L2.tail = L.tail + 1)))) = false by by_cases he : e = 0; · { rw [he0 he, he]; simp }; · { rw [he1 he]; simp [he]; omega }]
                  refine y (ev_pick0 rfl rfl) rfl ?_
                  refine ynil' (kthn (hK25 _ _ ?_))
                  clear hK25
                  refine ccond0 rfl ?_
                  refine cskip' (kbn (kthn ?_))
                  exact ksub (by repeat first | exact sub_nil | refine sub_cons rfl ?_ | refine sub_cons' rfl (by simp) ?_) (by repeat first | exact .refl | exact .nil | exact .z | apply Pk.s | refine Ge.e ?_ | apply Ge.pick | apply Ge.drop) (hJr31 (_, _, _) hj)
              · (try simp only [decide_eq_true_eq, beq_iff_eq, beq_eq_false_iff_ne, decide_eq_decide, decide_eq_false_iff_not, Bool.not_eq_true', Bool.not_eq_false', Bool.not_eq_true, Bool.not_eq_false, Bool.not_not, ne_eq, Option.isNone_some, Option.isSome_some, Option.isNone_none, Option.isSome_none] at h88)
                refine cseq ?_; intro K26 hK26
                refine creg ?_
                refine y (ev_eql rfl rfl) rfl ?_
                refine y (ev_assign rfl) rfl ?_
                refine ynil' (kthn (hK26 _ _ ?_))
                clear hK26
                refine ccond rfl (fun h110 => ?_) (fun h110 => ?_)
                · (try simp only [decide_eq_true_eq, beq_iff_eq, beq_eq_false_iff_ne, decide_eq_decide, decide_eq_false_iff_not, Bool.not_eq_true', Bool.not_eq_false', Bool.not_eq_true, Bool.not_eq_false, Bool.not_not, ne_eq, Option.isNone_some, Option.isSome_some, Option.isNone_none, Option.isSome_none] at h110)
                  refine cseq ?_; intro K27 hK27
                  refine creg ?_
                  refine y (ev_move rfl) rfl ?_
                  refine ycall (bSync ?ad112) rfl Try.call35 (by repeat first | exact .nil | exact .z | apply Pk.s | apply Tk.cons) rfl ?_
                  case ad112 => exact hlok.d
                  rintro v L' ⟨rfl, rfl⟩
                  have hj := And.intro hI.bar.up1 (And.intro ok hn)
                  refine ynil' (kthn (hK27 _ _ ?_))
                  clear hK27
                  refine cseq ?_; intro K28 hK28
                  refine creg ?_
                  refine y (ev_move rfl) rfl ?_
                  skip
                  · skip
                    refine ycall (bHead) rfl Try.call29 (by repeat first | exact .nil | exact .z | apply Pk.s | apply Tk.cons) rfl ?_
                    rintro v L' ⟨rfl, rfl⟩
                    refine y (ev_move rfl) rfl ?_
                    refine y (ev_neq rfl rfl) rfl ?_
                    rw [show (!decide (L.head = L.head)) = false by simp]
                    refine y (ev_move rfl) rfl ?_
                    refine yg1 rfl rfl ?_
                    refine y (ev_move rfl) rfl ?_
                    refine yg1 rfl rfl ?_
                    refine ycall (bTail ?ta119 ?tb119 ?tc119 ?td119) rfl Try.call39 (by repeat first | exact .nil | exact .z | apply Pk.s | apply Tk.cons) rfl ?_
                    case ta119 => assumption
                    case tb119 => omega
                    case tc119 => omega
                    case td119 => omega
                    rintro v L' ⟨rfl, rfl⟩
                    refine yg1 rfl rfl ?_
                    refine y (ev_move rfl) rfl ?_
                    refine yg1 rfl rfl ?_
                    refine y (ev_neq rfl rfl) rfl ?_
                    rw [show (!decide (L.tail = L.tail)) = false by simp]
                    refine y (ev_pick0 rfl rfl) rfl ?_
                    refine ynil' (kthn (hK28 _ _ ?_))
                    clear hK28
                    refine ccond0 rfl ?_
                    refine cskip' (kbn (kthn ?_))
                    exact ksub (by repeat first | exact sub_nil | refine sub_cons rfl ?_ | refine sub_cons' rfl (by simp) ?_) (by repeat first | exact .refl | exact .nil | exact .z | apply Pk.s | refine Ge.e ?_ | apply Ge.pick | apply Ge.drop) (hJr31 (_, _, _) hj)
                · (try simp only [decide_eq_true_eq, beq_iff_eq, beq_eq_false_iff_ne, decide_eq_decide, decide_eq_false_iff_not, Bool.not_eq_true', Bool.not_eq_false', Bool.not_eq_true, Bool.not_eq_false, Bool.not_not, ne_eq, Option.isNone_some, Option.isSome_some, Option.isNone_none, Option.isSome_none] at h110)
                  refine cseq ?_; intro K29 hK29
                  refine creg ?_
                  refine y (ev_eql rfl rfl) rfl ?_
                  refine y (ev_assign rfl) rfl ?_
                  refine ynil' (kthn (hK29 _ _ ?_))
                  clear hK29
                  refine ccond rfl (fun h125 => ?_) (fun h125 => ?_)
                  · (try simp only [decide_eq_true_eq, beq_iff_eq, beq_eq_false_iff_ne, decide_eq_decide, decide_eq_false_iff_not, Bool.not_eq_true', Bool.not_eq_false', Bool.not_eq_true, Bool.not_eq_false, Bool.not_not, ne_eq, Option.isNone_some, Option.isSome_some, Option.isNone_none, Option.isSome_none] at h125)
                    refine cseq ?_; intro K30 hK30
                    refine creg ?_
                    refine y (ev_move rfl) rfl ?_
                    refine y (ev_fieldAddr 1 rfl Try.underlying58 rfl Try.sizeOf3) rfl ?_
                    refine y (ev_load rfl Try.isAgg3 (by repeat first | exact .z | apply In.s) rfl) rfl ?_
                    refine y (ev_and rfl rfl) rfl ?_
                    obtain ⟨hz0, hz1⟩ := and31 a.n; generalize bAnd .i64 a.n 31 = z at *
                    refine y (ev_add rfl rfl) rfl ?_
                    rw [wr (by omega) (by omega)]
                    refine y (ev_assign rfl) rfl ?_
                    refine ynil' (kthn (hK30 _ _ ?_))
                    clear hK30
                    refine cseq ?_; intro K31 hK31
                    refine creg ?_
                    refine y (ev_move rfl) rfl ?_
                    refine y (ev_move rfl) rfl ?_
                    refine ycall (bTrim (k := L.head + z) ?al134 ?as134) rfl Try.call28 (by repeat first | exact .nil | exact .z | apply Pk.s | apply Tk.cons) rfl ?_
                    case al134 => exact hlok
                    case as134 => exact ok
                    rintro v L' ⟨s104, rfl, ok104, rfl⟩
                    obtain ⟨hI2, ht2, hn2, h1, h2⟩ := hI.trim (by omega) (m := L.head + z) (by omega)
                    obtain ⟨r, hr0⟩ : ∃ r, L.trim D (L.head + z) = r := ⟨_, rfl⟩
                    rw [hr0] at hI2 ht2 hn2 h1 h2 ok104 ⊢
                    obtain ⟨e, L2, D2⟩ := r
                    dsimp only at hI2 ht2 hn2 h1 h2 ok104 ⊢
                    have hl52 := items_len hI2.ok; have hh12 := hI2.ok.head; have htl2 := hI2.tl; have htd2 : L2.tail = L2.head + L2.l.length := rfl
                    have hj := And.intro hI2 (And.intro ok104 (hn2.trans hn))
                    refine y (ev_assign rfl) rfl ?_
                    refine ynil' (kthn (hK31 _ _ ?_))
                    clear hK31
                    refine cseq ?_; intro K32 hK32
                    refine creg ?_
                    refine y (ev_move rfl) rfl ?_
                    rcases (show e = 0 ∨ (¬ e = 0 ∧ L.head + z ≤ L.tail) ∨ (¬ e = 0 ∧ ¬ L.head + z ≤ L.tail) by omega) with he | ⟨he, hm⟩ | ⟨he, hm⟩
                    · skip
                      refine ycall (bTail ?ta137 ?tb137 ?tc137 ?td137) rfl Try.call39 (by repeat first | exact .nil | exact .z | apply Pk.s | apply Tk.cons) rfl ?_
                      case ta137 => assumption
                      case tb137 => omega
                      case tc137 => omega
                      case td137 => omega
                      rintro v L' ⟨rfl, rfl⟩
                      refine y (ev_move rfl) rfl ?_
                      refine y (ev_neq rfl rfl) rfl ?_
                      rw [ht2, show (!decide (L.tail = L.tail)) = false by simp]
                      refine y (ev_move rfl) rfl ?_
                      refine yg1 rfl rfl ?_
                      refine y (ev_move rfl) rfl ?_
                      refine yg1 rfl rfl ?_
                      refine y (ev_eql rfl rfl) rfl ?_
                      first | rw [show (decide (e = 0)) = true from decide_eq_true he] | rw [show (decide (e = 0)) = false from decide_eq_false he]
                      refine yg1 rfl rfl ?_
                      refine y (ev_move rfl) rfl ?_
                      refine yg1 rfl rfl ?_
                      refine y (ev_move rfl) rfl ?_
                      refine yg1 rfl rfl ?_
                      refine ycall (bHead) rfl Try.call29 (by repeat first | exact .nil | exact .z | apply Pk.s | apply Tk.cons) rfl ?_
                      rintro v L' ⟨rfl, rfl⟩
                      refine yg1 rfl rfl ?_
                      refine y (ev_move rfl) rfl ?_
                      refine yg1 rfl rfl ?_
                      refine y (ev_neq rfl rfl) rfl ?_
                      rw [h1 he, show (!decide (L.head + z = L.head + z)) = false by simp]
                      refine yg1 rfl rfl ?_
                      refine y (ev_pick1 rfl rfl) rfl ?_
                      refine y (ev_pick0 rfl rfl) rfl ?_
                      refine y (ev_move rfl) rfl ?_
                      refine yg1 rfl rfl ?_
                      refine y (ev_move rfl) rfl ?_
                      refine yg1 rfl rfl ?_
                      refine y (ev_neq rfl rfl) rfl ?_
                      first | rw [decide_eq_true he] | rw [decide_eq_false he]
                      refine yg1 rfl rfl ?_
                      refine y (ev_move rfl) rfl ?_
                      refine yg0 rfl rfl rfl rfl ?_
                      refine yg0 rfl rfl rfl rfl ?_
                      refine yg0 rfl rfl rfl rfl ?_
                      refine yg0 rfl rfl rfl rfl ?_
                      refine yg0 rfl rfl rfl rfl ?_
                      refine yg0u rfl rfl rfl ?_
                      refine yg0u rfl rfl rfl ?_
                      refine yg0u rfl rfl rfl ?_
                      refine yg0u rfl rfl rfl ?_
                      refine yg0u rfl rfl rfl ?_
                      refine yg0u rfl rfl rfl ?_
                      refine yg0u rfl rfl rfl ?_
                      refine yg0u rfl rfl rfl ?_
                      refine yg0 rfl rfl rfl rfl ?_
                      refine yg1 rfl rfl ?_
                      refine y (ev_pick0 rfl rfl) rfl ?_
                      refine y (ev_pick0 rfl rfl) rfl ?_
                      refine ynil' (kthn (hK32 _ _ ?_))
                      clear hK32
                      refine ccond0 rfl ?_
                      refine cskip' (kbn (kthn ?_))
                      exact ksub (by repeat first | exact sub_nil | refine sub_cons rfl ?_ | refine sub_cons' rfl (by simp) ?_) (by repeat first | exact .refl | exact .nil | exact .z | apply Pk.s | refine Ge.e ?_ | apply Ge.pick | apply Ge.drop) (hJr31 (_, _, _) hj)
                    · skip
                      refine ycall (bTail ?ta156 ?tb156 ?tc156 ?td156) rfl Try.call39 (by repeat first | exact .nil | exact .z | apply Pk.s | apply Tk.cons) rfl ?_
                      case ta156 => assumption
                      case tb156 => omega
                      case tc156 => omega
                      case td156 => omega
                      rintro v L' ⟨rfl, rfl⟩
                      refine y (ev_move rfl) rfl ?_
                      refine y (ev_neq rfl rfl) rfl ?_
                      rw [ht2, show (!decide (L.tail = L.tail)) = false by simp]
                      refine y (ev_move rfl) rfl ?_
                      refine yg1 rfl rfl ?_
                      refine y (ev_move rfl) rfl ?_
                      refine yg1 rfl rfl ?_
                      refine y (ev_eql rfl rfl) rfl ?_
                      first | rw [show (decide (e = 0)) = true from decide_eq_true he] | rw [show (decide (e = 0)) = false from decide_eq_false he]
                      refine yg1 rfl rfl ?_
                      refine y (ev_move rfl) rfl ?_
                      refine yg0 rfl rfl rfl rfl ?_
                      refine yg0 rfl rfl rfl rfl ?_
                      refine yg0 rfl rfl rfl rfl ?_
                      refine yg0 rfl rfl rfl rfl ?_
                      refine yg1 rfl rfl ?_
                      refine y (ev_pick0 rfl rfl) rfl ?_
                      refine y (ev_pick0 rfl rfl) rfl ?_
                      refine y (ev_move rfl) rfl ?_
                      refine yg1 rfl rfl ?_
                      refine y (ev_move rfl) rfl ?_
                      refine yg1 rfl rfl ?_
                      refine y (ev_neq rfl rfl) rfl ?_
                      first | rw [decide_eq_true he] | rw [decide_eq_false he]
                      refine yg1 rfl rfl ?_
                      refine y (ev_move rfl) rfl ?_
                      refine yg1 rfl rfl ?_
                      refine y (ev_move rfl) rfl ?_
                      refine yg1 rfl rfl ?_
                      refine ycall (bHead) rfl Try.call29 (by repeat first | exact .nil | exact .z | apply Pk.s | apply Tk.cons) rfl ?_
                      rintro v L' ⟨rfl, rfl⟩
                      refine yg1 rfl rfl ?_
                      refine y (ev_move rfl) rfl ?_
                      refine yg1 rfl rfl ?_
                      refine y (ev_neq rfl rfl) rfl ?_
                      rw [(h2 he).1, show (!decide (L.head = L.head)) = false by simp]
                      refine yg1 rfl rfl ?_
                      refine y (ev_move rfl) rfl ?_
                      refine yg1 rfl rfl ?_
                      refine y (ev_move rfl) rfl ?_
                      refine yg1 rfl rfl ?_
                      refine y (ev_move rfl) rfl ?_
                      refine yg1 rfl rfl ?_
                      refine y (ev_leq rfl rfl) rfl ?_
                      first | rw [decide_eq_true hm] | rw [decide_eq_false hm]
                      refine yg1 rfl rfl ?_
                      refine y (ev_move rfl) rfl ?_
                      refine yg1 rfl rfl ?_
                      refine y (ev_move rfl) rfl ?_
                      refine yg1 rfl rfl ?_
                      refine ycall (secDead) rfl Try.call23 (by repeat first | exact .nil | exact .z | apply Pk.s | apply Tk.cons) rfl ?_
                      rintro v L' ⟨rfl, rfl⟩
                      rw [(h2 he).2 hm]
                      refine yg1 rfl rfl ?_
                      refine y (ev_not rfl) rfl ?_
                      refine yg1 rfl rfl ?_
                      refine y (ev_pick1 rfl rfl) rfl ?_
                      refine yg1 rfl rfl ?_
                      refine y (ev_pick0 rfl rfl) rfl ?_
                      refine yg1 rfl rfl ?_
                      refine y (ev_pick1 rfl rfl) rfl ?_
                      refine y (ev_pick0 rfl rfl) rfl ?_
                      refine ynil' (kthn (hK32 _ _ ?_))
                      clear hK32
                      refine ccond0 rfl ?_
                      refine cskip' (kbn (kthn ?_))
                      exact ksub (by repeat first | exact sub_nil | refine sub_cons rfl ?_ | refine sub_cons' rfl (by simp) ?_) (by repeat first | exact .refl | exact .nil | exact .z | apply Pk.s | refine Ge.e ?_ | apply Ge.pick | apply Ge.drop) (hJr31 (_, _, _) hj)
                    · skip
                      refine ycall (bTail ?ta185 ?tb185 ?tc185 ?td185) rfl Try.call39 (by repeat first | exact .nil | exact .z | apply Pk.s | apply Tk.cons) rfl ?_
                      case ta185 => assumption
                      case tb185 => omega
                      case tc185 => omega
                      case td185 => omega
                      rintro v L' ⟨rfl, rfl⟩
                      refine y (ev_move rfl) rfl ?_
                      refine y (ev_neq rfl rfl) rfl ?_
                      rw [ht2, show (!decide (L.tail = L.tail)) = false by simp]
                      refine y (ev_move rfl) rfl ?_
                      refine yg1 rfl rfl ?_
                      refine y (ev_move rfl) rfl ?_
                      refine yg1 rfl rfl ?_
                      refine y (ev_eql rfl rfl) rfl ?_
                      first | rw [show (decide (e = 0)) = true from decide_eq_true he] | rw [show (decide (e = 0)) = false from decide_eq_false he]
                      refine yg1 rfl rfl ?_
                      refine y (ev_move rfl) rfl ?_
                      refine yg0 rfl rfl rfl rfl ?_
                      refine yg0 rfl rfl rfl rfl ?_
                      refine yg0 rfl rfl rfl rfl ?_
                      refine yg0 rfl rfl rfl rfl ?_
                      refine yg1 rfl rfl ?_
                      refine y (ev_pick0 rfl rfl) rfl ?_
                      refine y (ev_pick0 rfl rfl) rfl ?_
                      refine y (ev_move rfl) rfl ?_
                      refine yg1 rfl rfl ?_
                      refine y (ev_move rfl) rfl ?_
                      refine yg1 rfl rfl ?_
                      refine y (ev_neq rfl rfl) rfl ?_
                      first | rw [decide_eq_true he] | rw [decide_eq_false he]
                      refine yg1 rfl rfl ?_
                      refine y (ev_move rfl) rfl ?_
                      refine yg1 rfl rfl ?_
                      refine y (ev_move rfl) rfl ?_
                      refine yg1 rfl rfl ?_
                      refine ycall (bHead) rfl Try.call29 (by repeat first | exact .nil | exact .z | apply Pk.s | apply Tk.cons) rfl ?_
                      rintro v L' ⟨rfl, rfl⟩
                      refine yg1 rfl rfl ?_
                      refine y (ev_move rfl) rfl ?_
                      refine yg1 rfl rfl ?_
                      refine y (ev_neq rfl rfl) rfl ?_
                      rw [(h2 he).1, show (!decide (L.head = L.head)) = false by simp]
                      refine yg1 rfl rfl ?_
                      refine y (ev_move rfl) rfl ?_
                      refine yg1 rfl rfl ?_
                      refine y (ev_move rfl) rfl ?_
                      refine yg1 rfl rfl ?_
                      refine y (ev_move rfl) rfl ?_
                      refine yg1 rfl rfl ?_
                      refine y (ev_leq rfl rfl) rfl ?_
                      first | rw [decide_eq_true hm] | rw [decide_eq_false hm]
                      refine yg1 rfl rfl ?_
                      refine y (ev_move rfl) rfl ?_
                      refine yg0 rfl rfl rfl rfl ?_
                      refine yg0 rfl rfl rfl rfl ?_
                      refine yg0 rfl rfl rfl rfl ?_
                      refine yg1 rfl rfl ?_
                      refine y (ev_pick0 rfl rfl) rfl ?_
                      refine yg1 rfl rfl ?_
                      refine y (ev_pick0 rfl rfl) rfl ?_
                      refine yg1 rfl rfl ?_
                      refine y (ev_pick1 rfl rfl) rfl ?_
                      refine y (ev_pick0 rfl rfl) rfl ?_
                      refine ynil' (kthn (hK32 _ _ ?_))
                      clear hK32
                      refine ccond0 rfl ?_
                      refine cskip' (kbn (kthn ?_))
                      exact ksub (by repeat first | exact sub_nil | refine sub_cons rfl ?_ | refine sub_cons' rfl (by simp) ?_) (by repeat first | exact .refl | exact .nil | exact .z | apply Pk.s | refine Ge.e ?_ | apply Ge.pick | apply Ge.drop) (hJr31 (_, _, _) hj)
                  · (try simp only [decide_eq_true_eq, beq_iff_eq, beq_eq_false_iff_ne, decide_eq_decide, decide_eq_false_iff_not, Bool.not_eq_true', Bool.not_eq_false', Bool.not_eq_true, Bool.not_eq_false, Bool.not_not, ne_eq, Option.isNone_some, Option.isSome_some, Option.isNone_none, Option.isSome_none] at h125)
                    refine cseq ?_; intro K33 hK33
                    refine creg ?_
                    refine y (ev_eql rfl rfl) rfl ?_
                    refine y (ev_assign rfl) rfl ?_
                    refine ynil' (kthn (hK33 _ _ ?_))
                    clear hK33
                    refine ccond rfl (fun h213 => ?_) (fun h213 => ?_)
                    · (try simp only [decide_eq_true_eq, beq_iff_eq, beq_eq_false_iff_ne, decide_eq_decide, decide_eq_false_iff_not, Bool.not_eq_true', Bool.not_eq_false', Bool.not_eq_true, Bool.not_eq_false, Bool.not_not, ne_eq, Option.isNone_some, Option.isSome_some, Option.isNone_none, Option.isSome_none] at h213)
                      refine creg ?_
                      refine y (ev_move rfl) rfl ?_
                      refine y (ev_fieldAddr 1 rfl Try.underlying58 rfl Try.sizeOf3) rfl ?_
                      refine y (ev_load rfl Try.isAgg3 (by repeat first | exact .z | apply In.s) rfl) rfl ?_
                      refine ycall (secFuse) rfl Try.call22 (by repeat first | exact .nil | exact .z | apply Pk.s | apply Tk.cons) rfl ?_
                      rintro v L' ⟨rfl, rfl⟩
                      have hj := And.intro (hI.fuse hact.n.2).up1 (And.intro ok hn)
                      refine ynil' (kbn (kthn ?_))
                      exact ksub (by repeat first | exact sub_nil | refine sub_cons rfl ?_ | refine sub_cons' rfl (by simp) ?_) (by repeat first | exact .refl | exact .nil | exact .z | apply Pk.s | refine Ge.e ?_ | apply Ge.pick | apply Ge.drop) (hJr31 (_, _, _) hj)
                    · (try simp only [decide_eq_true_eq, beq_iff_eq, beq_eq_false_iff_ne, decide_eq_decide, decide_eq_false_iff_not, Bool.not_eq_true', Bool.not_eq_false', Bool.not_eq_true, Bool.not_eq_false, Bool.not_not, ne_eq, Option.isNone_some, Option.isSome_some, Option.isNone_none, Option.isSome_none] at h213)
                      have hj := And.intro hI.up1 (And.intro ok hn)
                      refine cskip' (kbn (kthn ?_))
                      exact ksub (by repeat first | exact sub_nil | refine sub_cons rfl ?_ | refine sub_cons' rfl (by simp) ?_) (by repeat first | exact .refl | exact .nil | exact .z | apply Pk.s | refine Ge.e ?_ | apply Ge.pick | apply Ge.drop) (hJr31 (_, _, _) hj)
        · (try simp only [decide_eq_true_eq, beq_iff_eq, beq_eq_false_iff_ne, decide_eq_decide, decide_eq_false_iff_not, Bool.not_eq_true', Bool.not_eq_false', Bool.not_eq_true, Bool.not_eq_false, Bool.not_not, ne_eq, Option.isNone_some, Option.isSome_some, Option.isNone_none, Option.isSome_none] at h34)
          refine cexit (kthx (kthx (kbx (kthn ?_))))
          exact ksub (by repeat first | exact sub_nil | refine sub_cons rfl ?_ | refine sub_cons' rfl (by simp) ?_) (by repeat first | exact .refl | exact .nil | exact .z | apply Pk.s | refine Ge.e ?_ | apply Ge.pick | apply Ge.drop) (hJ1 ⟨i, sl, L, D⟩ ⟨hI1o, by first | trivial | omega⟩)
      · (try simp only [decide_eq_true_eq, beq_iff_eq, beq_eq_false_iff_ne, decide_eq_decide, decide_eq_false_iff_not, Bool.not_eq_true', Bool.not_eq_false', Bool.not_eq_true, Bool.not_eq_false, Bool.not_not, ne_eq, Option.isNone_some, Option.isSome_some, Option.isNone_none, Option.isSome_none] at h30)
        refine yg0 rfl rfl rfl rfl ?_
        refine yg0 rfl rfl rfl rfl ?_
        refine y (ev_pick0 rfl rfl) rfl ?_
        refine ynil' (kthn (hK13 _ _ ?_))
        clear hK13
        refine ccond0 rfl ?_
        refine cexit (kthx (kthx (kbx (kthn ?_))))
        exact ksub (by repeat first | exact sub_nil | refine sub_cons rfl ?_ | refine sub_cons' rfl (by simp) ?_) (by repeat first | exact .refl | exact .nil | exact .z | apply Pk.s | refine Ge.e ?_ | apply Ge.pick | apply Ge.drop) (hJ1 ⟨i, sl, L, D⟩ ⟨hI1o, by first | trivial | omega⟩)
end W
end Go.Proofs
