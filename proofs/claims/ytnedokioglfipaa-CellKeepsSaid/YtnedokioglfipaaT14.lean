/- A part of the proof: contracts and plain lemmas, each without conditions beyond those that it names. -/
import Derived.Test.YtnedokioglfipaaT13
import Derived.Test.YtnedokioglfipaaGG
set_option linter.unusedVariables false
set_option linter.unusedSimpArgs false
set_option linter.constructorNameAsVariable false
namespace Go.Proofs
open Go Go.Sl
namespace W
set_option linter.unusedVariables false
theorem cSlots [Env] {R : List Seg} {q : Q3} {D : Dev} {a b : Int} (hD : D.ok) (ha : D.has a = 0) (hb : D.has b = 0) :
    Con Try.prog 44 [dp q, i64 a, i64 b] [dev q D] R (fun v L' => ∃ p, v = .slice (some ⟨p, 0, none⟩) 2 2 ∧ L' = [sc p [str (D.sec a), str (D.sec b)] 9, dev q D]) := by
  refine con_enter Try.func44 Try.ntmps44 rfl rfl ?_
  refine cseq ?_; intro K1 hK1
  refine creg ?_
  refine y (ev_assign rfl) rfl ?_
  refine ynil' (kthn (hK1 _ _ ?_))
  clear hK1
  refine cseq ?_; intro K2 hK2
  refine creg ?_
  refine y (ev_move rfl) rfl ?_
  refine y (ev_move rfl) rfl ?_
  refine ycall (secReadS hD ha) rfl Try.call30 (by repeat first | exact .nil | exact .z | apply Pk.s | apply Tk.cons) rfl ?_
  rintro v L' ⟨s14, rfl, ok14, rfl⟩
  refine y (ev_move rfl) rfl ?_
  refine y (ev_extract rfl rfl) rfl ?_
  refine y (ev_extract rfl rfl) rfl ?_
  refine y (ev_assign rfl) rfl ?_
  refine y (ev_assign rfl) rfl ?_
  refine ynil' (kthn (hK2 _ _ ?_))
  clear hK2
  refine cseq ?_; intro K3 hK3
  refine creg ?_
  refine y (ev_move rfl) rfl ?_
  refine y (ev_move rfl) rfl ?_
  refine ycall (secReadS hD hb) rfl Try.call30 (by repeat first | exact .nil | exact .z | apply Pk.s | apply Tk.cons) rfl ?_
  rintro v L' ⟨s20, rfl, ok20, rfl⟩
  refine y (ev_move rfl) rfl ?_
  refine y (ev_extract rfl rfl) rfl ?_
  refine y (ev_extract rfl rfl) rfl ?_
  refine y (ev_assign rfl) rfl ?_
  refine y (ev_assign rfl) rfl ?_
  refine ynil' (kthn (hK3 _ _ ?_))
  clear hK3
  refine cseq ?_; intro K4 hK4
  refine creg ?_
  refine y (ev_move rfl) rfl ?_
  refine y (ev_toStrB (rdY_sv (by repeat first | exact .z | apply In.s) ok14).rd.bytes .refl rfl Try.underlying27 Try.underlying9 Try.underlying5) rfl ?_
  refine y (ev_move rfl) rfl ?_
  refine y (ev_toStrB (rdY_sv (by repeat first | exact .z | apply In.s) ok20).rd.bytes .refl rfl Try.underlying27 Try.underlying9 Try.underlying5) rfl ?_
  refine ya (ac_bsliceR rfl Try.underlying57 Try.sizeOf9 Try.zeroValue9 rfl rfl rfl rfl ⟨⟨_, _, rfl, (by first | rfl | simp), (by first | decide | simp)⟩, ⟨⟨_, _, rfl, (by first | rfl | simp), (by first | decide | simp)⟩, trivial⟩⟩ (by dsimp [fillL, splice, vcells, reps] <;> rfl)) rfl ?_
  rintro v L' ⟨b27, rfl, rfl⟩
  refine y (ev_assign rfl) rfl ?_
  refine ynil' (kthn (hK4 _ _ ?_))
  clear hK4
  refine cret ?_
  first
    | (exfalso; omega; done)
    | (refine kretv Try.results44 rfl (L1 := [sc b27 _ 9, dev q D] ++ R) (by repeat first | exact .refl | exact .nil | exact .z | apply Pk.s | refine Ge.e ?_ | apply Ge.pick | apply Ge.drop) ?_
       exact ⟨_, ⟨b27, rfl, rfl⟩, rfl⟩)
theorem lawCellAlone [Env] {R : List Seg} {lv : Value} {ts : List Bytes} {a b : Int} (hl : RdV R lv ts.length (strsV ts)) (hA0 : 0 ≤ a) (hA1 : a ≤ 255) (hB0 : 0 ≤ b) (hB1 : b ≤ 255) :
    Con Try.prog 11 [lv, .int .u8 a, .int .u8 b] [] R (Is (.bool true) []) := by
  have hU0 : Up (Dev.new 10) 10 := new_up (by decide)
  obtain ⟨i, hi⟩ : ∃ i : Int, a % 10 = i := ⟨_, rfl⟩
  obtain ⟨j, hj⟩ : ∃ j : Int, b % 10 = j := ⟨_, rfl⟩
  have hi0 : 0 ≤ i ∧ i < 10 := by omega
  have hj0 : 0 ≤ j ∧ j < 10 := by omega
  refine con_enter Try.func11 Try.ntmps11 rfl rfl ?_
  refine cseq ?_; intro K1 hK1
  refine creg ?_
  refine y (ev_assign rfl) rfl ?_
  refine ynil' (kthn (hK1 _ _ ?_))
  clear hK1
  refine cseq ?_; intro K2 hK2
  refine cseq ?_; intro K3 hK3
  refine creg ?_
  refine ycall (awake5) rfl Try.call37 (by repeat first | exact .nil | exact .z | apply Pk.s | apply Tk.cons) rfl ?_
  rintro v L' ⟨rfl, rfl⟩
  refine y (ev_not rfl) rfl ?_
  refine ynil' (kthn (hK3 _ _ ?_))
  clear hK3
  refine ccond rfl (fun h27 => ?_) (fun h27 => ?_)
  · (try simp only [decide_eq_true_eq, beq_iff_eq, beq_eq_false_iff_ne, decide_eq_decide, decide_eq_false_iff_not, Bool.not_eq_true', Bool.not_eq_false', Bool.not_eq_true, Bool.not_eq_false, Bool.not_not, ne_eq, Option.isNone_some, Option.isSome_some, Option.isNone_none, Option.isSome_none] at h27)
    refine cseq ?_; intro K4 hK4
    refine creg ?_
    refine y (ev_assign rfl) rfl ?_
    refine ynil' (kthn (hK4 _ _ ?_))
    clear hK4
    refine cret (kthr ?_)
    first
      | (exfalso; omega; done)
      | (refine kretv Try.results11 rfl (L1 := R) (by repeat first | exact .refl | exact .nil | exact .z | apply Pk.s | refine Ge.e ?_ | apply Ge.pick | apply Ge.drop) ?_
         exact ⟨_, ⟨by first | rfl | (exfalso; simp_all; done), rfl⟩, by first | rfl | (exfalso; simp_all; done)⟩)
  · (try simp only [decide_eq_true_eq, beq_iff_eq, beq_eq_false_iff_ne, decide_eq_decide, decide_eq_false_iff_not, Bool.not_eq_true', Bool.not_eq_false', Bool.not_eq_true, Bool.not_eq_false, Bool.not_not, ne_eq, Option.isNone_some, Option.isSome_some, Option.isNone_none, Option.isSome_none] at h27)
    refine cskip' (kthn (hK2 _ _ ?_))
    clear hK2
    refine cseq ?_; intro K5 hK5
    refine creg ?_
    refine y (ev_move rfl) rfl ?_
    refine y (ev_rem rfl rfl (by decide)) rfl ?_
    rw [Int.tmod_eq_emod_of_nonneg hA0, hi]
    refine y (ev_conv rfl Try.underlying5 Try.underlying3) rfl ?_
    rw [wr (by omega) (by omega)]
    refine y (ev_move rfl) rfl ?_
    refine y (ev_rem rfl rfl (by decide)) rfl ?_
    rw [Int.tmod_eq_emod_of_nonneg hB0, hj]
    refine y (ev_conv rfl Try.underlying5 Try.underlying3) rfl ?_
    rw [wr (by omega) (by omega)]
    refine y (ev_assign rfl) rfl ?_
    refine y (ev_assign rfl) rfl ?_
    refine ynil' (kthn (hK5 _ _ ?_))
    clear hK5
    refine cseq ?_; intro K6 hK6
    refine creg ?_
    refine ycall (secNew (n := 10) (by omega)) rfl Try.call15 (by repeat first | exact .nil | exact .z | apply Pk.s | apply Tk.cons) rfl ?_
    rintro v L' ⟨q27, rfl, rfl⟩
    refine y (ev_assign rfl) rfl ?_
    refine ynil' (kthn (hK6 _ _ ?_))
    clear hK6
    refine cseq ?_; intro K7 hK7
    refine cseq ?_; intro K8 hK8
    refine creg ?_
    refine y (ev_move rfl) rfl ?_
    skip
    · skip
      refine y (ev_eqlPnil rfl rfl Try.underlying24) rfl ?_
      refine y (ev_move rfl) rfl ?_
      refine yg1 rfl rfl ?_
      refine y (ev_move rfl) rfl ?_
      refine yg1 rfl rfl ?_
      refine y (ev_move rfl) rfl ?_
      refine yg1 rfl rfl ?_
      refine y (ev_eql rfl rfl) rfl ?_
      refine y (ev_pick0 rfl rfl) rfl ?_
      refine ynil' (kthn (hK8 _ _ ?_))
      clear hK8
      refine ccond rfl (fun h46 => ?_) (fun h46 => ?_)
      · (try simp only [decide_eq_true_eq, beq_iff_eq, beq_eq_false_iff_ne, decide_eq_decide, decide_eq_false_iff_not, Bool.not_eq_true', Bool.not_eq_false', Bool.not_eq_true, Bool.not_eq_false, Bool.not_not, ne_eq, Option.isNone_some, Option.isSome_some, Option.isNone_none, Option.isSome_none] at h46)
        refine cseq ?_; intro K9 hK9
        refine creg ?_
        refine y (ev_move rfl) rfl ?_
        refine y (ev_neqPnil rfl rfl Try.underlying24) rfl ?_
        refine y (ev_assign rfl) rfl ?_
        refine ynil' (kthn (hK9 _ _ ?_))
        clear hK9
        refine cret (kthr ?_)
        first
          | (exfalso; omega; done)
          | (refine kretv Try.results11 rfl (L1 := R) (by repeat first | exact .refl | exact .nil | exact .z | apply Pk.s | refine Ge.e ?_ | apply Ge.pick | apply Ge.drop) ?_
             exact ⟨_, ⟨by first | rfl | (exfalso; simp_all; done), rfl⟩, by first | rfl | (exfalso; simp_all; done)⟩)
      · (try simp only [decide_eq_true_eq, beq_iff_eq, beq_eq_false_iff_ne, decide_eq_decide, decide_eq_false_iff_not, Bool.not_eq_true', Bool.not_eq_false', Bool.not_eq_true, Bool.not_eq_false, Bool.not_not, ne_eq, Option.isNone_some, Option.isSome_some, Option.isNone_none, Option.isSome_none] at h46)
        refine cskip' (kthn (hK7 _ _ ?_))
        clear hK7
        refine cseq ?_; intro K10 hK10
        refine cseq ?_; intro K11 hK11
        refine creg ?_
        refine y (ev_assign rfl) rfl ?_
        refine ynil' (kthn (hK11 _ _ ?_))
        clear hK11
        have hJ1 : ∀ x : Nat × Dev, ((Up x.2 10 ∧ (∀ z : Nat, z < x.1 → x.2.sec z = pad (initB z)) ∧ x.1 ≤ 10) ∧ (x.1 = 10)) → Sk 138 K10 ([(10, i64 x.1), (9, dp q27), (7, i64 i), (8, i64 j), (0, lv)]) ([dev q27 x.2] ++ R) := by
          rintro ⟨k, D⟩ ⟨hI1, hX1⟩
          refine hK10 _ _ ?_
          obtain ⟨hU, hsec, hk⟩ := hI1; dsimp only at hU hsec hk ⊢
          dsimp only at hX1; subst hX1
          refine cseq ?_; intro K12 hK12
          refine creg ?_
          refine y (ev_move rfl) rfl ?_
          refine ycall (secBarrier ?ok52) rfl Try.call17 (by repeat first | exact .nil | exact .z | apply Pk.s | apply Tk.cons) rfl ?_
          case ok52 => exact hU.ok
          rintro v L' ⟨rfl, rfl⟩
          have hUb := hU.barrier_up
          have hsb : ∀ z : Nat, z < 10 → D.barrier.2.sec z = pad (initB z) := fun z hz => by rw [hU.sec_barrier (by omega) (by omega)]; exact hsec z hz
          generalize D.barrier = DB at *
          have hij : i ≠ j := by omega
          have hE : openE DB.2 i j = 0 := openE_up hUb hij (by omega) (by omega)
          have hC0 : openC DB.2 i j = CellM.init i j := open_none (by rw [show i = ((i.toNat : Nat) : Int) by omega, hsb _ (by omega)]; exact readM_init _) (by rw [show j = ((j.toNat : Nat) : Int) by omega, hsb _ (by omega)]; exact readM_init _)
          refine ynil' (kthn (hK12 _ _ ?_))
          clear hK12
          refine cseq ?_; intro K13 hK13
          refine creg ?_
          refine y (ev_move rfl) rfl ?_
          refine y (ev_move rfl) rfl ?_
          refine y (ev_move rfl) rfl ?_
          refine ycall (cOpenGood hUb.ok hE) rfl Try.call40 (by repeat first | exact .nil | exact .z | apply Pk.s | apply Tk.cons) rfl ?_
          rintro v L' ⟨c0, rfl, rfl⟩
          refine y (ev_move rfl) rfl ?_
          refine y (ev_extract rfl rfl) rfl ?_
          refine y (ev_extract rfl rfl) rfl ?_
          refine y (ev_assign rfl) rfl ?_
          refine y (ev_assign rfl) rfl ?_
          refine ynil' (kthn (hK13 _ _ ?_))
          clear hK13
          refine cseq ?_; intro K14 hK14
          refine cseq ?_; intro K15 hK15
          refine creg ?_
          refine y (ev_move rfl) rfl ?_
          skip
          · skip
            refine y (ev_neq rfl rfl) rfl ?_
            refine y (ev_move rfl) rfl ?_
            refine yg1 rfl rfl ?_
            refine y (ev_move rfl) rfl ?_
            refine yg1 rfl rfl ?_
            refine y (ev_eqlPnil rfl rfl Try.underlying61) rfl ?_
            refine y (ev_pick0 rfl rfl) rfl ?_
            refine ynil' (kthn (hK15 _ _ ?_))
            clear hK15
            refine ccond0 rfl ?_
            refine cskip' (kthn (hK14 _ _ ?_))
            clear hK14
            refine cseq ?_; intro K16 hK16
            refine cseq ?_; intro K17 hK17
            refine creg ?_
            refine y (ev_assign rfl) rfl ?_
            refine ynil' (kthn (hK17 _ _ ?_))
            clear hK17
            have hJ2 : ∀ x : Nat × Dev, ((Up x.2 10 ∧ (∀ z : Nat, z < 10 → (z : Int) ≠ i → (z : Int) ≠ j → x.2.sec z = pad (initB z)) ∧ (openC x.2 i j).gen = x.1 ∧ x.1 ≤ ts.length ∧ x.1 ≤ 60) ∧ (True)) → Sk 138 K16 ([(13, i64 x.1), (11, ptr c0), (9, dp q27), (7, i64 i), (8, i64 j), (0, lv)]) ([celP c0 q27 (openC x.2 i j), dev q27 x.2] ++ R) := by
              rintro ⟨k2, D2⟩ ⟨hI2, hX2⟩
              refine hK16 _ _ ?_
              obtain ⟨hU2, hsec2, hgen, hk3, hk4⟩ := hI2; dsimp only at hU2 hsec2 hgen hk3 hk4 ⊢
              refine cseq ?_; intro K18 hK18
              refine cseq ?_; intro K19 hK19
              refine creg ?_
              refine y (ev_assign rfl) rfl ?_
              refine ynil' (kthn (hK19 _ _ ?_))
              clear hK19
              have hJ3 : ∀ x : Nat, ((x ≤ 10) ∧ (True)) → Sk 138 K18 ([(16, i64 x), (9, dp q27), (7, i64 i), (8, i64 j)]) ([dev q27 D2] ++ R) := by
                rintro z ⟨hI3, hX3⟩
                refine hK18 _ _ ?_
                have hz := hI3
                refine cseq ?_; intro K20 hK20
                refine creg ?_
                refine y (ev_assign rfl) rfl ?_
                refine ynil' (kthn (hK20 _ _ ?_))
                clear hK20
                refine cret ?_
                first
                  | (exfalso; omega; done)
                  | (refine kretv Try.results11 rfl (L1 := R) (by repeat first | exact .refl | exact .nil | exact .z | apply Pk.s | refine Ge.e ?_ | apply Ge.pick | apply Ge.drop) ?_
                     exact ⟨_, ⟨by first | rfl | (exfalso; simp_all; done), rfl⟩, by first | rfl | (exfalso; simp_all; done)⟩)
              clear hK18
              refine cblock ?_
              refine cloop (A := Nat) (fun x => [(16, i64 x), (9, dp q27), (7, i64 i), (8, i64 j)]) (fun x => [dev q27 D2] ++ R) (fun x => x ≤ 10) (fun x => 10 - x) (0) ?_ (by repeat first | exact sub_nil | refine sub_cons rfl ?_ | refine sub_cons' rfl (by simp) ?_) (by repeat first | exact .refl | exact .nil | exact .z | apply Pk.s | refine Ge.e ?_ | apply Ge.pick | apply Ge.drop) ?_
              · exact Nat.zero_le _
              rintro z hI3 KL3 hL3
              have hI3o := hI3
              have hz := hI3
              refine cseq ?_; intro K21 hK21
              refine cseq ?_; intro K22 hK22
              refine creg ?_
              refine y (ev_move rfl) rfl ?_
              refine y (ev_lss rfl rfl) rfl ?_
              refine ynil' (kthn (hK22 _ _ ?_))
              clear hK22
              refine ccond rfl (fun h73 => ?_) (fun h73 => ?_)
              · (try simp only [decide_eq_true_eq, beq_iff_eq, beq_eq_false_iff_ne, decide_eq_decide, decide_eq_false_iff_not, Bool.not_eq_true', Bool.not_eq_false', Bool.not_eq_true, Bool.not_eq_false, Bool.not_not, ne_eq, Option.isNone_some, Option.isSome_some, Option.isNone_none, Option.isSome_none] at h73)
                refine cskip' (kthn (hK21 _ _ ?_))
                clear hK21
                refine cseq ?_; intro K23 hK23
                refine cblock ?_
                refine cseq ?_; intro K24 hK24
                refine creg ?_
                refine y (ev_move rfl) rfl ?_
                refine y (ev_move rfl) rfl ?_
                refine ycall (secReadS hU2.ok (by rw [hU2.has, if_neg (by omega)])) rfl Try.call30 (by repeat first | exact .nil | exact .z | apply Pk.s | apply Tk.cons) rfl ?_
                rintro v L' ⟨s116, rfl, ok116, rfl⟩
                have hy := rdY_sv (L := [svSeg s116 5 (bytesV (D2.sec z))]) .z ok116
                have hl144 := sec_length hU2.ok (z : Int)
                refine y (ev_move rfl) rfl ?_
                refine y (ev_extract rfl rfl) rfl ?_
                refine y (ev_extract rfl rfl) rfl ?_
                refine y (ev_assign rfl) rfl ?_
                refine y (ev_assign rfl) rfl ?_
                refine ynil' (kthn (hK24 _ _ ?_))
                clear hK24
                refine cseq ?_; intro K25 hK25
                refine cdraw 18 [(0, true), (1, true), (2, true), (3, true), (4, true), (5, true), (6, true), (7, true), (8, true), (9, true), (10, true), (11, true), (12, true), (13, true), (14, true), (15, false), (16, false), (17, false)] (_) Try.mixed (by kernel_rfl) .refl ?_
                refine hr rfl (ev_move rfl) rfl ?_
                refine hr rfl (ev_move rfl) rfl ?_
                refine hr rfl (ev_neq rfl rfl) rfl ?_
                refine hr rfl (ev_move rfl) rfl ?_
                refine hsplit 122 rfl (fun h86 => ?_) (fun h86 => ?_)
                · (try simp only [decide_eq_true_eq, beq_iff_eq, beq_eq_false_iff_ne, decide_eq_decide, decide_eq_false_iff_not, Bool.not_eq_true', Bool.not_eq_false', Bool.not_eq_true, Bool.not_eq_false, Bool.not_not, ne_eq, Option.isNone_some, Option.isSome_some, Option.isNone_none, Option.isSome_none] at h86)
                  refine hr1 rfl rfl rfl (ev_move rfl) rfl ?_
                  refine hr1 rfl rfl rfl (ev_move rfl) rfl ?_
                  refine hr1 rfl rfl rfl (ev_neq rfl rfl) rfl ?_
                  refine hr rfl (ev_pick1 rfl rfl) rfl ?_
                  refine hr rfl (ev_move rfl) rfl ?_
                  refine hsplit 127 rfl (fun h92 => ?_) (fun h92 => ?_)
                  · (try simp only [decide_eq_true_eq, beq_iff_eq, beq_eq_false_iff_ne, decide_eq_decide, decide_eq_false_iff_not, Bool.not_eq_true', Bool.not_eq_false', Bool.not_eq_true, Bool.not_eq_false, Bool.not_not, ne_eq, Option.isNone_some, Option.isSome_some, Option.isNone_none, Option.isSome_none] at h92)
                    refine hr1 rfl rfl rfl (ev_move rfl) rfl ?_
                    refine hr1 rfl rfl rfl (ev_slHV hy.rd hy.cap rfl rfl Try.underlying27 Try.sizeOf5 (by omega) (by omega)) rfl ?_
                    refine hr1 rfl rfl rfl (ev_toStrB (hy.take (k := 3) (by omega)).rd.bytes (by repeat first | exact .refl | exact .nil | exact .z | apply Pk.s | refine Ge.e ?_ | apply Ge.pick | apply Ge.drop) rfl Try.underlying27 Try.underlying9 Try.underlying5) rfl ?_
                    refine hr1 rfl rfl rfl (ev_move rfl) rfl ?_
                    refine hr1 rfl rfl rfl (ev_add rfl rfl) rfl ?_
                    rw [wr (by omega) (by omega)]
                    refine hr1 rfl rfl rfl (ev_conv rfl Try.underlying3 Try.underlying5) rfl ?_
                    rw [wu8, show ((z : Int) + 1) % 256 = (((UInt8.ofNat (z + 1)).toNat : Nat) : Int) by rw [UInt8.toNat_ofNat']; omega]
                    refine ha1 rfl rfl rfl (ac_bsliceR rfl Try.underlying27 Try.sizeOf5 Try.zeroValue5 rfl rfl rfl rfl ⟨⟨_, _, rfl, (by first | rfl | simp), (by first | decide | simp)⟩, ⟨⟨_, _, rfl, (by first | rfl | simp), (by first | decide | simp)⟩, ⟨⟨_, _, rfl, (by first | rfl | simp), (by first | decide | simp)⟩, trivial⟩⟩⟩ (by dsimp [fillL, splice, vcells, reps] <;> rfl)) rfl ?_
                    rintro v L' ⟨b134, rfl, rfl⟩; refine ⟨(by repeat first | exact .refl | exact .nil | exact .z | apply Pk.s | refine Ge.e ?_ | apply Ge.pick | apply Ge.drop), ?_⟩
                    refine ha1 rfl rfl rfl (ac_of_ev (ev_toStr (bs := initB z) rfl Try.underlying27 Try.underlying9 Try.underlying5 (by rfl) (by repeat first | exact .z | apply In.s) rfl)) rfl ?_
                    rintro v L' ⟨rfl, rfl⟩; refine ⟨(by repeat first | exact .refl | exact .nil | exact .z | apply Pk.s | refine Ge.e ?_ | apply Ge.pick | apply Ge.drop), ?_⟩
                    first
                      | refine ha1 rfl rfl rfl (ac_of_ev (ev_neqL rfl rfl)) rfl ?_
                      | refine ha1 rfl rfl rfl (ac_of_ev (ev_neqS rfl rfl)) rfl ?_
                    rintro v L' ⟨rfl, rfl⟩; refine ⟨(by repeat first | exact .refl | exact .nil | exact .z | apply Pk.s | refine Ge.e ?_ | apply Ge.pick | apply Ge.drop), ?_⟩
                    have hsz := hsec2 z (by omega) (by omega) (by omega)
                    rw [hsz, show decide ((pad (initB z)).take 3 ≠ initB z) = false by simp [pad, initB]]
                    refine hnil ?_
                    refine y (ev_pick1 rfl rfl) rfl ?_
                    refine hnoP' (kthn (hK25 _ _ ?_))
                    clear hK25
                    refine ccond rfl (fun h103 => ?_) (fun h103 => ?_)
                    · (try simp only [decide_eq_true_eq, beq_iff_eq, beq_eq_false_iff_ne, decide_eq_decide, decide_eq_false_iff_not, Bool.not_eq_true', Bool.not_eq_false', Bool.not_eq_true, Bool.not_eq_false, Bool.not_not, ne_eq, Option.isNone_some, Option.isSome_some, Option.isNone_none, Option.isSome_none] at h103)
                      exfalso; simp_all
                    · (try simp only [decide_eq_true_eq, beq_iff_eq, beq_eq_false_iff_ne, decide_eq_decide, decide_eq_false_iff_not, Bool.not_eq_true', Bool.not_eq_false', Bool.not_eq_true, Bool.not_eq_false, Bool.not_not, ne_eq, Option.isNone_some, Option.isSome_some, Option.isNone_none, Option.isSome_none] at h103)
                      refine cskip' (kbn (kthn (hK23 _ _ ?_)))
                      clear hK23
                      refine creg ?_
                      refine y (ev_move rfl) rfl ?_
                      refine y (ev_add rfl rfl) rfl ?_
                      rw [show IntKind.i64.wrap ((z:Int) + 1) = ((z+1 : Nat) : Int) by rw [wr (by omega) (by omega)]; rfl]
                      refine y (ev_assign rfl) rfl ?_
                      refine ynil' (kthn ?_)
                      exact hL3 (z + 1) (show z + 1 ≤ 10 by omega) (by omega) _ _ (by repeat first | exact sub_nil | refine sub_cons rfl ?_ | refine sub_cons' rfl (by simp) ?_) (by repeat first | exact .refl | exact .nil | exact .z | apply Pk.s | refine Ge.e ?_ | apply Ge.pick | apply Ge.drop)
                  · (try simp only [decide_eq_true_eq, beq_iff_eq, beq_eq_false_iff_ne, decide_eq_decide, decide_eq_false_iff_not, Bool.not_eq_true', Bool.not_eq_false', Bool.not_eq_true, Bool.not_eq_false, Bool.not_not, ne_eq, Option.isNone_some, Option.isSome_some, Option.isNone_none, Option.isSome_none] at h92)
                    refine hr0 rfl rfl rfl rfl rfl ?_
                    refine hr0 rfl rfl rfl rfl rfl ?_
                    refine hr0 rfl rfl rfl rfl rfl ?_
                    refine hr0 rfl rfl rfl rfl rfl ?_
                    refine hr0 rfl rfl rfl rfl rfl ?_
                    refine hr0 rfl rfl rfl rfl rfl ?_
                    refine ha0 rfl rfl rfl rfl rfl (by repeat first | exact .refl | exact .nil | exact .z | apply Pk.s | refine Ge.e ?_ | apply Ge.pick | apply Ge.drop) ?_
                    refine ha0 rfl rfl rfl rfl rfl (by repeat first | exact .refl | exact .nil | exact .z | apply Pk.s | refine Ge.e ?_ | apply Ge.pick | apply Ge.drop) ?_
                    refine ha0 rfl rfl rfl rfl rfl (by repeat first | exact .refl | exact .nil | exact .z | apply Pk.s | refine Ge.e ?_ | apply Ge.pick | apply Ge.drop) ?_
                    refine hnil ?_
                    refine y (ev_pick0 rfl rfl) rfl ?_
                    refine hnoP' (kthn (hK25 _ _ ?_))
                    clear hK25
                    refine ccond0 rfl ?_
                    refine cskip' (kbn (kthn (hK23 _ _ ?_)))
                    clear hK23
                    refine creg ?_
                    refine y (ev_move rfl) rfl ?_
                    refine y (ev_add rfl rfl) rfl ?_
                    rw [show IntKind.i64.wrap ((z:Int) + 1) = ((z+1 : Nat) : Int) by rw [wr (by omega) (by omega)]; rfl]
                    refine y (ev_assign rfl) rfl ?_
                    refine ynil' (kthn ?_)
                    exact hL3 (z + 1) (show z + 1 ≤ 10 by omega) (by omega) _ _ (by repeat first | exact sub_nil | refine sub_cons rfl ?_ | refine sub_cons' rfl (by simp) ?_) (by repeat first | exact .refl | exact .nil | exact .z | apply Pk.s | refine Ge.e ?_ | apply Ge.pick | apply Ge.drop)
                · (try simp only [decide_eq_true_eq, beq_iff_eq, beq_eq_false_iff_ne, decide_eq_decide, decide_eq_false_iff_not, Bool.not_eq_true', Bool.not_eq_false', Bool.not_eq_true, Bool.not_eq_false, Bool.not_not, ne_eq, Option.isNone_some, Option.isSome_some, Option.isNone_none, Option.isSome_none] at h86)
                  refine hr0 rfl rfl rfl rfl rfl ?_
                  refine hr0 rfl rfl rfl rfl rfl ?_
                  refine hr0 rfl rfl rfl rfl rfl ?_
                  refine hr rfl (ev_pick0 rfl rfl) rfl ?_
                  refine hr rfl (ev_move rfl) rfl ?_
                  refine hr0 rfl rfl rfl rfl rfl ?_
                  refine hr0 rfl rfl rfl rfl rfl ?_
                  refine hr0 rfl rfl rfl rfl rfl ?_
                  refine hr0 rfl rfl rfl rfl rfl ?_
                  refine hr0 rfl rfl rfl rfl rfl ?_
                  refine hr0 rfl rfl rfl rfl rfl ?_
                  refine ha0 rfl rfl rfl rfl rfl (by repeat first | exact .refl | exact .nil | exact .z | apply Pk.s | refine Ge.e ?_ | apply Ge.pick | apply Ge.drop) ?_
                  refine ha0 rfl rfl rfl rfl rfl (by repeat first | exact .refl | exact .nil | exact .z | apply Pk.s | refine Ge.e ?_ | apply Ge.pick | apply Ge.drop) ?_
                  refine ha0 rfl rfl rfl rfl rfl (by repeat first | exact .refl | exact .nil | exact .z | apply Pk.s | refine Ge.e ?_ | apply Ge.pick | apply Ge.drop) ?_
                  refine hnil ?_
                  refine y (ev_pick0 rfl rfl) rfl ?_
                  refine hnoP' (kthn (hK25 _ _ ?_))
                  clear hK25
                  refine ccond0 rfl ?_
                  refine cskip' (kbn (kthn (hK23 _ _ ?_)))
                  clear hK23
                  refine creg ?_
                  refine y (ev_move rfl) rfl ?_
                  refine y (ev_add rfl rfl) rfl ?_
                  rw [show IntKind.i64.wrap ((z:Int) + 1) = ((z+1 : Nat) : Int) by rw [wr (by omega) (by omega)]; rfl]
                  refine y (ev_assign rfl) rfl ?_
                  refine ynil' (kthn ?_)
                  exact hL3 (z + 1) (show z + 1 ≤ 10 by omega) (by omega) _ _ (by repeat first | exact sub_nil | refine sub_cons rfl ?_ | refine sub_cons' rfl (by simp) ?_) (by repeat first | exact .refl | exact .nil | exact .z | apply Pk.s | refine Ge.e ?_ | apply Ge.pick | apply Ge.drop)
              · (try simp only [decide_eq_true_eq, beq_iff_eq, beq_eq_false_iff_ne, decide_eq_decide, decide_eq_false_iff_not, Bool.not_eq_true', Bool.not_eq_false', Bool.not_eq_true, Bool.not_eq_false, Bool.not_not, ne_eq, Option.isNone_some, Option.isSome_some, Option.isNone_none, Option.isSome_none] at h73)
                refine cexit (kthx (kthx (kbx (kthn ?_))))
                exact ksub (by repeat first | exact sub_nil | refine sub_cons rfl ?_ | refine sub_cons' rfl (by simp) ?_) (by repeat first | exact .refl | exact .nil | exact .z | apply Pk.s | refine Ge.e ?_ | apply Ge.pick | apply Ge.drop) (hJ3 z ⟨hI3o, by first | trivial | omega⟩)
            clear hK16
            refine cblock ?_
            refine cloop (A := Nat × Dev) (fun x => [(13, i64 x.1), (11, ptr c0), (9, dp q27), (7, i64 i), (8, i64 j), (0, lv)]) (fun x => [celP c0 q27 (openC x.2 i j), dev q27 x.2] ++ R) (fun x => Up x.2 10 ∧ (∀ z : Nat, z < 10 → (z : Int) ≠ i → (z : Int) ≠ j → x.2.sec z = pad (initB z)) ∧ (openC x.2 i j).gen = x.1 ∧ x.1 ≤ ts.length ∧ x.1 ≤ 60) (fun x => ts.length - x.1) ((0, DB.2)) ?_ (by repeat first | exact sub_nil | refine sub_cons rfl ?_ | refine sub_cons' rfl (by simp) ?_) (by repeat first | exact .refl | exact .nil | exact .z | apply Pk.s | refine Ge.e ?_ | apply Ge.pick | apply Ge.drop) ?_
            · exact ⟨hUb, fun z hz _ _ => hsb z hz, by rw [hC0]; rfl, Nat.zero_le _, Nat.zero_le _⟩
            rintro ⟨k2, D2⟩ hI2 KL2 hL2
            have hI2o := hI2
            obtain ⟨hU2, hsec2, hgen, hk3, hk4⟩ := hI2; dsimp only at hU2 hsec2 hgen hk3 hk4 ⊢
            refine cseq ?_; intro K26 hK26
            refine cseq ?_; intro K27 hK27
            refine creg ?_
            refine y (ev_move rfl) rfl ?_
            refine y (ev_move rfl) rfl ?_
            first
              | refine y (ev_len rfl Try.underlying57) rfl ?_
              | refine y (ev_lenSv rfl Try.underlying57 (by assumption)) rfl ?_
              | refine y (ev_lenV rfl Try.underlying57 (RdV.lenVal (by assumption))) rfl ?_
              | refine y (ev_lenV rfl Try.underlying57 (RdB.lenVal (by assumption))) rfl ?_
            refine y (ev_lss rfl rfl) rfl ?_
            refine y (ev_move rfl) rfl ?_
            refine ysplit 67 rfl (fun h122 => ?_) (fun h122 => ?_)
            · (try simp only [decide_eq_true_eq, beq_iff_eq, beq_eq_false_iff_ne, decide_eq_decide, decide_eq_false_iff_not, Bool.not_eq_true', Bool.not_eq_false', Bool.not_eq_true, Bool.not_eq_false, Bool.not_not, ne_eq, Option.isNone_some, Option.isSome_some, Option.isNone_none, Option.isSome_none] at h122)
              refine yg1 rfl rfl ?_
              refine y (ev_move rfl) rfl ?_
              refine yg1 rfl rfl ?_
              refine y (ev_lss rfl rfl) rfl ?_
              refine y (ev_pick1 rfl rfl) rfl ?_
              refine ynil' (kthn (hK27 _ _ ?_))
              clear hK27
              refine ccond rfl (fun h126 => ?_) (fun h126 => ?_)
              · (try simp only [decide_eq_true_eq, beq_iff_eq, beq_eq_false_iff_ne, decide_eq_decide, decide_eq_false_iff_not, Bool.not_eq_true', Bool.not_eq_false', Bool.not_eq_true, Bool.not_eq_false, Bool.not_not, ne_eq, Option.isNone_some, Option.isSome_some, Option.isNone_none, Option.isSome_none] at h126)
                obtain ⟨s, hs⟩ : ∃ s, ts[k2]? = some s := ⟨_, List.getElem?_eq_getElem (by omega)⟩
                refine cskip' (kthn (hK26 _ _ ?_))
                clear hK26
                refine cseq ?_; intro K28 hK28
                refine cblock ?_
                refine cseq ?_; intro K29 hK29
                refine cseq ?_; intro K30 hK30
                refine creg ?_
                refine y (ev_move rfl) rfl ?_
                refine y (ev_move rfl) rfl ?_
                refine y (ev_ixV hl rfl rfl Try.underlying57 Try.sizeOf9 (by omega) (by omega)) rfl ?_
                refine y (ev_loadV k2 hl (by repeat first | exact .refl | exact .nil | exact .z | apply Pk.s | refine Ge.e ?_ | apply Ge.pick | apply Ge.drop) rfl Try.isAgg9 (by simp) (strsV_get hs)) rfl ?_
                first
                  | refine y (ev_lenStr rfl Try.underlying9) rfl ?_
                  | refine y (ev_lenS rfl Try.underlying9) rfl ?_
                refine y (ev_gtr rfl rfl) rfl ?_
                refine ynil' (kthn (hK30 _ _ ?_))
                clear hK30
                refine ccond rfl (fun h133 => ?_) (fun h133 => ?_)
                · (try simp only [decide_eq_true_eq, beq_iff_eq, beq_eq_false_iff_ne, decide_eq_decide, decide_eq_false_iff_not, Bool.not_eq_true', Bool.not_eq_false', Bool.not_eq_true, Bool.not_eq_false, Bool.not_not, ne_eq, Option.isNone_some, Option.isSome_some, Option.isNone_none, Option.isSome_none] at h133)
                  refine cseq ?_; intro K31 hK31
                  refine creg ?_
                  refine y (ev_assign rfl) rfl ?_
                  refine ynil' (kthn (hK31 _ _ ?_))
                  clear hK31
                  refine cret (kthr (kbr (kthr (kthr (kbr (kthr ?_))))))
                  first
                    | (exfalso; omega; done)
                    | (refine kretv Try.results11 rfl (L1 := R) (by repeat first | exact .refl | exact .nil | exact .z | apply Pk.s | refine Ge.e ?_ | apply Ge.pick | apply Ge.drop) ?_
                       exact ⟨_, ⟨by first | rfl | (exfalso; simp_all; done), rfl⟩, by first | rfl | (exfalso; simp_all; done)⟩)
                · (try simp only [decide_eq_true_eq, beq_iff_eq, beq_eq_false_iff_ne, decide_eq_decide, decide_eq_false_iff_not, Bool.not_eq_true', Bool.not_eq_false', Bool.not_eq_true, Bool.not_eq_false, Bool.not_not, ne_eq, Option.isNone_some, Option.isSome_some, Option.isNone_none, Option.isSome_none] at h133)
                  have hs100 : s.length ≤ 100 := by omega
                  have hE2 : openE D2 i j = 0 := openE_up hU2 hij (by omega) (by omega)
                  have hC2 := (openC_ok hE2).1
                  rw [hU2.len] at hC2
                  refine cskip' (kthn (hK29 _ _ ?_))
                  clear hK29
                  refine cseq ?_; intro K32 hK32
                  refine creg ?_
                  refine y (ev_move rfl) rfl ?_
                  refine y (ev_move rfl) rfl ?_
                  refine y (ev_move rfl) rfl ?_
                  refine ycall (cSlots ?ok138 ?ha138 ?hb138) rfl Try.call44 (by repeat first | exact .nil | exact .z | apply Pk.s | apply Tk.cons) rfl ?_
                  case ok138 => exact hU2.ok
                  case ha138 => rw [hU2.has, if_neg (by omega)]
                  case hb138 => rw [hU2.has, if_neg (by omega)]
                  rintro v L' ⟨p82, rfl, rfl⟩
                  refine y (ev_assign rfl) rfl ?_
                  refine ynil' (kthn (hK32 _ _ ?_))
                  clear hK32
                  refine cseq ?_; intro K33 hK33
                  refine cseq ?_; intro K34 hK34
                  refine creg ?_
                  refine y (ev_move rfl) rfl ?_
                  refine y (ev_move rfl) rfl ?_
                  refine y (ev_move rfl) rfl ?_
                  refine y (ev_ixV hl rfl rfl Try.underlying57 Try.sizeOf9 (by omega) (by omega)) rfl ?_
                  refine y (ev_loadV k2 hl (by repeat first | exact .refl | exact .nil | exact .z | apply Pk.s | refine Ge.e ?_ | apply Ge.pick | apply Ge.drop) rfl Try.isAgg9 (by simp) (strsV_get hs)) rfl ?_
                  refine ycall (cPutGood hU2 hC2 hs100 (by omega)) rfl Try.call43 (by repeat first | exact .nil | exact .z | apply Pk.s | apply Tk.cons) rfl ?_
                  rintro v L' ⟨D3, rfl, hp, rfl⟩
                  have hU3 := hp.up
                  have hO : openC D3 i j = (openC D2 i j).next s := open_next hU2.len hE2 hs100 (by omega) hp
                  have hgen3 : (openC D3 i j).gen = ((k2 + 1 : Nat) : Int) := by rw [hO]; show (openC D2 i j).gen + 1 = _; omega
                  have hone := put_one hC2 hs100 (by omega) hp
                  have hsec3 : ∀ z : Nat, z < 10 → (z : Int) ≠ i → (z : Int) ≠ j → D3.sec z = pad (initB z) := fun z hz h1 h2 => by rw [put_else hp (by omega) (by omega) h1 h2]; exact hsec2 z hz h1 h2
                  rw [← hO]
                  skip
                  · skip
                    refine y (ev_neq rfl rfl) rfl ?_
                    refine ynil' (kthn (hK34 _ _ ?_))
                    clear hK34
                    refine ccond0 rfl ?_
                    refine cskip' (kthn (hK33 _ _ ?_))
                    clear hK33
                    refine cseq ?_; intro K35 hK35
                    refine creg ?_
                    refine y (ev_move rfl) rfl ?_
                    refine y (ev_move rfl) rfl ?_
                    refine y (ev_move rfl) rfl ?_
                    refine ycall (cSlots ?ok150 ?ha150 ?hb150) rfl Try.call44 (by repeat first | exact .nil | exact .z | apply Pk.s | apply Tk.cons) rfl ?_
                    case ok150 => exact hU3.ok
                    case ha150 => rw [hU3.has, if_neg (by omega)]
                    case hb150 => rw [hU3.has, if_neg (by omega)]
                    rintro v L' ⟨p93, rfl, rfl⟩
                    refine y (ev_assign rfl) rfl ?_
                    refine ynil' (kthn (hK35 _ _ ?_))
                    clear hK35
                    refine cseq ?_; intro K36 hK36
                    refine cdraw 14 [(0, true), (1, true), (2, true), (3, true), (4, true), (5, true), (6, true), (7, true), (8, true), (9, true), (10, true), (11, true), (12, true), (13, true)] (_) Try.mixed (by kernel_rfl) .refl ?_
                    skip
                    · skip
                      refine hr rfl (ev_move rfl) rfl ?_
                      first
                        | refine hr rfl (ev_ixAddr rfl rfl Try.underlying57 Try.sizeOf9 (by omega) (by omega)) rfl ?_
                        | refine hr rfl (ev_ixV (by assumption) rfl rfl Try.underlying57 Try.sizeOf9 (by omega) (by omega)) rfl ?_
                      refine hr rfl (ev_load rfl Try.isAgg9 (by repeat first | exact .z | apply In.s) rfl) rfl ?_
                      refine hr rfl (ev_move rfl) rfl ?_
                      first
                        | refine hr rfl (ev_ixAddr rfl rfl Try.underlying57 Try.sizeOf9 (by omega) (by omega)) rfl ?_
                        | refine hr rfl (ev_ixV (by assumption) rfl rfl Try.underlying57 Try.sizeOf9 (by omega) (by omega)) rfl ?_
                      refine hr rfl (ev_load rfl Try.isAgg9 (by repeat first | exact .z | apply In.s) rfl) rfl ?_
                      first
                        | refine hr rfl (ev_eqlL rfl rfl) rfl ?_
                        | refine hr rfl (ev_eqlS rfl rfl) rfl ?_
                      refine hr rfl (ev_move rfl) rfl ?_
                      first
                        | refine hr rfl (ev_ixAddr rfl rfl Try.underlying57 Try.sizeOf9 (by omega) (by omega)) rfl ?_
                        | refine hr rfl (ev_ixV (by assumption) rfl rfl Try.underlying57 Try.sizeOf9 (by omega) (by omega)) rfl ?_
                      refine hr rfl (ev_load rfl Try.isAgg9 (by repeat first | exact .z | apply In.s) rfl) rfl ?_
                      refine hr rfl (ev_move rfl) rfl ?_
                      first
                        | refine hr rfl (ev_ixAddr rfl rfl Try.underlying57 Try.sizeOf9 (by omega) (by omega)) rfl ?_
                        | refine hr rfl (ev_ixV (by assumption) rfl rfl Try.underlying57 Try.sizeOf9 (by omega) (by omega)) rfl ?_
                      refine hr rfl (ev_load rfl Try.isAgg9 (by repeat first | exact .z | apply In.s) rfl) rfl ?_
                      first
                        | refine hr rfl (ev_eqlL rfl rfl) rfl ?_
                        | refine hr rfl (ev_eqlS rfl rfl) rfl ?_
                      refine hnil ?_
                      refine y (ev_eqlB rfl rfl Try.underlying4) rfl ?_
                      rw [hone]
                      refine hnoP' (kthn (hK36 _ _ ?_))
                      clear hK36
                      refine ccond0 rfl ?_
                      refine cskip' (kbn (kthn (hK28 _ _ ?_)))
                      clear hK28
                      refine creg ?_
                      refine y (ev_move rfl) rfl ?_
                      refine y (ev_add rfl rfl) rfl ?_
                      rw [show IntKind.i64.wrap ((k2:Int) + 1) = ((k2+1 : Nat) : Int) by rw [wr (by omega) (by omega)]; rfl]
                      refine y (ev_assign rfl) rfl ?_
                      refine ynil' (kthn ?_)
                      exact hL2 (k2 + 1, D3) ⟨hU3, hsec3, hgen3, by dsimp only; omega, by dsimp only; omega⟩ (by dsimp only; omega) _ _ (by repeat first | exact sub_nil | refine sub_cons rfl ?_ | refine sub_cons' rfl (by simp) ?_) (by repeat first | exact .refl | exact .nil | exact .z | apply Pk.s | refine Ge.e ?_ | apply Ge.pick | apply Ge.drop)
              · (try simp only [decide_eq_true_eq, beq_iff_eq, beq_eq_false_iff_ne, decide_eq_decide, decide_eq_false_iff_not, Bool.not_eq_true', Bool.not_eq_false', Bool.not_eq_true, Bool.not_eq_false, Bool.not_not, ne_eq, Option.isNone_some, Option.isSome_some, Option.isNone_none, Option.isSome_none] at h126)
                refine cexit (kthx (kthx (kbx (kthn ?_))))
                exact ksub (by repeat first | exact sub_nil | refine sub_cons rfl ?_ | refine sub_cons' rfl (by simp) ?_) (by repeat first | exact .refl | exact .nil | exact .z | apply Pk.s | refine Ge.e ?_ | apply Ge.pick | apply Ge.drop) (hJ2 ⟨k2, D2⟩ ⟨hI2o, by first | trivial | omega⟩)
            · (try simp only [decide_eq_true_eq, beq_iff_eq, beq_eq_false_iff_ne, decide_eq_decide, decide_eq_false_iff_not, Bool.not_eq_true', Bool.not_eq_false', Bool.not_eq_true, Bool.not_eq_false, Bool.not_not, ne_eq, Option.isNone_some, Option.isSome_some, Option.isNone_none, Option.isSome_none] at h122)
              refine yg0 rfl rfl rfl rfl ?_
              refine yg0 rfl rfl rfl rfl ?_
              refine y (ev_pick0 rfl rfl) rfl ?_
              refine ynil' (kthn (hK27 _ _ ?_))
              clear hK27
              refine ccond0 rfl ?_
              refine cexit (kthx (kthx (kbx (kthn ?_))))
              exact ksub (by repeat first | exact sub_nil | refine sub_cons rfl ?_ | refine sub_cons' rfl (by simp) ?_) (by repeat first | exact .refl | exact .nil | exact .z | apply Pk.s | refine Ge.e ?_ | apply Ge.pick | apply Ge.drop) (hJ2 ⟨k2, D2⟩ ⟨hI2o, by first | trivial | omega⟩)
        clear hK10
        refine cblock ?_
        refine cloop (A := Nat × Dev) (fun x => [(10, i64 x.1), (9, dp q27), (7, i64 i), (8, i64 j), (0, lv)]) (fun x => [dev q27 x.2] ++ R) (fun x => Up x.2 10 ∧ (∀ z : Nat, z < x.1 → x.2.sec z = pad (initB z)) ∧ x.1 ≤ 10) (fun x => 10 - x.1) ((0, Dev.new 10)) ?_ (by repeat first | exact sub_nil | refine sub_cons rfl ?_ | refine sub_cons' rfl (by simp) ?_) (by repeat first | exact .refl | exact .nil | exact .z | apply Pk.s | refine Ge.e ?_ | apply Ge.pick | apply Ge.drop) ?_
        · exact ⟨hU0, fun z hz => absurd hz (Nat.not_lt_zero _), Nat.zero_le _⟩
        rintro ⟨k, D⟩ hI1 KL1 hL1
        have hI1o := hI1
        obtain ⟨hU, hsec, hk⟩ := hI1; dsimp only at hU hsec hk ⊢
        refine cseq ?_; intro K37 hK37
        refine cseq ?_; intro K38 hK38
        refine creg ?_
        refine y (ev_move rfl) rfl ?_
        refine y (ev_lss rfl rfl) rfl ?_
        refine ynil' (kthn (hK38 _ _ ?_))
        clear hK38
        refine ccond rfl (fun h173 => ?_) (fun h173 => ?_)
        · (try simp only [decide_eq_true_eq, beq_iff_eq, beq_eq_false_iff_ne, decide_eq_decide, decide_eq_false_iff_not, Bool.not_eq_true', Bool.not_eq_false', Bool.not_eq_true, Bool.not_eq_false, Bool.not_not, ne_eq, Option.isNone_some, Option.isSome_some, Option.isNone_none, Option.isSome_none] at h173)
          refine cskip' (kthn (hK37 _ _ ?_))
          clear hK37
          refine cseq ?_; intro K39 hK39
          refine cblock ?_
          refine creg ?_
          refine y (ev_move rfl) rfl ?_
          refine y (ev_move rfl) rfl ?_
          refine y (ev_move rfl) rfl ?_
          refine y (ev_add rfl rfl) rfl ?_
          rw [wr (by omega) (by omega)]
          refine y (ev_conv rfl Try.underlying3 Try.underlying5) rfl ?_
          rw [wu8, show ((k : Int) + 1) % 256 = (((UInt8.ofNat (k + 1)).toNat : Nat) : Int) by rw [UInt8.toNat_ofNat']; omega]
          refine ya (ac_bsliceR rfl Try.underlying27 Try.sizeOf5 Try.zeroValue5 rfl rfl rfl rfl ⟨⟨_, _, rfl, (by first | rfl | simp), (by first | decide | simp)⟩, ⟨⟨_, _, rfl, (by first | rfl | simp), (by first | decide | simp)⟩, ⟨⟨_, _, rfl, (by first | rfl | simp), (by first | decide | simp)⟩, trivial⟩⟩⟩ (by dsimp [fillL, splice, vcells, reps] <;> rfl)) rfl ?_
          rintro v L' ⟨b46, rfl, rfl⟩
          refine ycall (secWrite (bs := initB k) ?ok180 ?rd180) rfl Try.call18 (by repeat first | exact .nil | exact .z | apply Pk.s | apply Tk.cons) rfl ?_
          case ok180 => exact hU.ok
          case rd180 => exact rdB_in (by repeat first | exact .z | apply In.s) rfl rfl
          rintro v L' ⟨rfl, rfl⟩
          have hw0 : (D.write k (initB k)).1 = 0 := by rw [hU.write, if_neg (by omega), if_neg (by simp [initB])]
          have hU1 := hU.write_up k (initB k)
          have hs1 := hU.sec_write_same hw0
          have hs2 : ∀ z : Nat, z < k + 1 → (D.write k (initB k)).2.sec z = pad (initB z) := fun z hz => by
            by_cases e : z = k
            · subst e; exact hs1.1
            · rw [hU.sec_write_other (i := (z : Int)) (j := (k : Int)) (by omega)]; exact hsec z (by omega)
          generalize (D.write k (initB k)).2 = D1 at *
          refine ynil' (kbn (kthn (hK39 _ _ ?_)))
          clear hK39
          refine creg ?_
          refine y (ev_move rfl) rfl ?_
          refine y (ev_add rfl rfl) rfl ?_
          rw [show IntKind.i64.wrap ((k:Int) + 1) = ((k+1 : Nat) : Int) by rw [wr (by omega) (by omega)]; rfl]
          refine y (ev_assign rfl) rfl ?_
          refine ynil' (kthn ?_)
          exact hL1 ((k + 1, D1)) (⟨hU1, hs2, by dsimp only; omega⟩) (by dsimp only; omega) _ _ (by repeat first | exact sub_nil | refine sub_cons rfl ?_ | refine sub_cons' rfl (by simp) ?_) (by repeat first | exact .refl | exact .nil | exact .z | apply Pk.s | refine Ge.e ?_ | apply Ge.pick | apply Ge.drop)
        · (try simp only [decide_eq_true_eq, beq_iff_eq, beq_eq_false_iff_ne, decide_eq_decide, decide_eq_false_iff_not, Bool.not_eq_true', Bool.not_eq_false', Bool.not_eq_true, Bool.not_eq_false, Bool.not_not, ne_eq, Option.isNone_some, Option.isSome_some, Option.isNone_none, Option.isSome_none] at h173)
          refine cexit (kthx (kthx (kbx (kthn ?_))))
          exact ksub (by repeat first | exact sub_nil | refine sub_cons rfl ?_ | refine sub_cons' rfl (by simp) ?_) (by repeat first | exact .refl | exact .nil | exact .z | apply Pk.s | refine Ge.e ?_ | apply Ge.pick | apply Ge.drop) (hJ1 ⟨k, D⟩ ⟨hI1o, by dsimp only; omega⟩)
end W
end Go.Proofs
