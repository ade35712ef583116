/- A part of the proof: contracts and plain lemmas, each without conditions beyond those that it names. -/
import Derived.Test.YtebijajimmjknaaB8
import Derived.Test.YtebijajimmjknaaGJ
set_option linter.unusedVariables false
set_option linter.unusedSimpArgs false
set_option linter.constructorNameAsVariable false
namespace Go.Proofs
open Go Go.Sl
namespace W
set_option linter.unusedVariables false
theorem bLarge [Env] {R : List Seg} {x : ActB} (hx : x.ok R) : Con Try.prog 34 [.agg x.cells.toArray] [] R (fun u L' => ∃ b, u = .bool b ∧ (b = false → x.ks.length ≤ 600) ∧ L' = []) := by
  have hkk := hx.keeps
  have hkl := hkk.lenVal
  refine con_enter Try.func34 Try.ntmps34 rfl rfl ?_
  refine cseq ?_; intro K1 hK1
  refine creg ?_
  refine ya (ac_box (vs := x.cells) rfl rfl) rfl ?_
  rintro v L' ⟨b1, rfl, rfl⟩
  refine y (ev_assign rfl) rfl ?_
  refine ynil' (kthn (hK1 _ _ ?_))
  clear hK1
  refine cseq ?_; intro K2 hK2
  refine creg ?_
  refine y (ev_fieldAddr 15 rfl Try.underlying73 rfl Try.sizeOf9) rfl ?_
  refine y (ev_load rfl Try.isAgg9 (by repeat first | exact .z | apply In.s) rfl) rfl ?_
  first
    | refine y (ev_lenStr rfl Try.underlying9) rfl ?_
    | refine y (ev_lenS rfl Try.underlying9) rfl ?_
  refine y (ev_gtr rfl rfl) rfl ?_
  refine y (ev_move rfl) rfl ?_
  refine ysplit 7 rfl (fun h8 => ?_) (fun h8 => ?_)
  · (try simp only [decide_eq_true_eq, beq_iff_eq, beq_eq_false_iff_ne, decide_eq_decide, decide_eq_false_iff_not, Bool.not_eq_true', Bool.not_eq_false', Bool.not_eq_true, Bool.not_eq_false, Bool.not_not, ne_eq, Option.isNone_some, Option.isSome_some, Option.isNone_none, Option.isSome_none] at h8)
    refine yg0 rfl rfl rfl rfl ?_
    refine yg0 rfl rfl rfl rfl ?_
    refine yg0 rfl rfl rfl rfl ?_
    refine yg0 rfl rfl rfl rfl ?_
    refine y (ev_pick1 rfl rfl) rfl ?_
    refine y (ev_move rfl) rfl ?_
    refine yg0 rfl rfl rfl rfl ?_
    refine yg0 rfl rfl rfl rfl ?_
    refine yg0 rfl rfl rfl rfl ?_
    refine yg0 rfl rfl rfl rfl ?_
    refine yg0 rfl rfl rfl rfl ?_
    refine y (ev_pick1 rfl rfl) rfl ?_
    refine y (ev_move rfl) rfl ?_
    refine yg0 rfl rfl rfl rfl ?_
    refine yg0 rfl rfl rfl rfl ?_
    refine yg0 rfl rfl rfl rfl ?_
    refine yg0 rfl rfl rfl rfl ?_
    refine yg0 rfl rfl rfl rfl ?_
    refine y (ev_pick1 rfl rfl) rfl ?_
    refine y (ev_assign rfl) rfl ?_
    refine ynil' (kthn (hK2 _ _ ?_))
    clear hK2
    refine cret ?_
    first
      | (exfalso; omega; done)
      | (refine kretv Try.results34 rfl (L1 := [] ++ R) (by repeat first | exact .refl | exact .nil | exact .z | apply Pk.s | refine Ge.e ?_ | apply Ge.pick | apply Ge.drop) ?_
         exact ⟨_, ⟨_, rfl, fun h => by first | omega | (simp at h; done) | (simp at h; omega), rfl⟩, rfl⟩)
  · (try simp only [decide_eq_true_eq, beq_iff_eq, beq_eq_false_iff_ne, decide_eq_decide, decide_eq_false_iff_not, Bool.not_eq_true', Bool.not_eq_false', Bool.not_eq_true, Bool.not_eq_false, Bool.not_not, ne_eq, Option.isNone_some, Option.isSome_some, Option.isNone_none, Option.isSome_none] at h8)
    refine yg1 rfl rfl ?_
    refine y (ev_fieldAddr 16 rfl Try.underlying73 rfl Try.sizeOf62) rfl ?_
    refine yg1 rfl rfl ?_
    refine y (ev_load rfl Try.isAgg62 (by repeat first | exact .z | apply In.s) rfl) rfl ?_
    refine yg1 rfl rfl ?_
    refine y (ev_lenV rfl Try.underlying62 hkl) rfl ?_
    refine yg1 rfl rfl ?_
    refine y (ev_gtr rfl rfl) rfl ?_
    refine y (ev_pick0 rfl rfl) rfl ?_
    refine y (ev_move rfl) rfl ?_
    refine ysplit 13 rfl (fun h21 => ?_) (fun h21 => ?_)
    · (try simp only [decide_eq_true_eq, beq_iff_eq, beq_eq_false_iff_ne, decide_eq_decide, decide_eq_false_iff_not, Bool.not_eq_true', Bool.not_eq_false', Bool.not_eq_true, Bool.not_eq_false, Bool.not_not, ne_eq, Option.isNone_some, Option.isSome_some, Option.isNone_none, Option.isSome_none] at h21)
      refine yg0 rfl rfl rfl rfl ?_
      refine yg0 rfl rfl rfl rfl ?_
      refine yg0 rfl rfl rfl rfl ?_
      refine yg0 rfl rfl rfl rfl ?_
      refine yg0 rfl rfl rfl rfl ?_
      refine y (ev_pick1 rfl rfl) rfl ?_
      refine y (ev_move rfl) rfl ?_
      refine yg0 rfl rfl rfl rfl ?_
      refine yg0 rfl rfl rfl rfl ?_
      refine yg0 rfl rfl rfl rfl ?_
      refine yg0 rfl rfl rfl rfl ?_
      refine yg0 rfl rfl rfl rfl ?_
      refine y (ev_pick1 rfl rfl) rfl ?_
      refine y (ev_assign rfl) rfl ?_
      refine ynil' (kthn (hK2 _ _ ?_))
      clear hK2
      refine cret ?_
      first
        | (exfalso; omega; done)
        | (refine kretv Try.results34 rfl (L1 := [] ++ R) (by repeat first | exact .refl | exact .nil | exact .z | apply Pk.s | refine Ge.e ?_ | apply Ge.pick | apply Ge.drop) ?_
           exact ⟨_, ⟨_, rfl, fun h => by first | omega | (simp at h; done) | (simp at h; omega), rfl⟩, rfl⟩)
    · (try simp only [decide_eq_true_eq, beq_iff_eq, beq_eq_false_iff_ne, decide_eq_decide, decide_eq_false_iff_not, Bool.not_eq_true', Bool.not_eq_false', Bool.not_eq_true, Bool.not_eq_false, Bool.not_not, ne_eq, Option.isNone_some, Option.isSome_some, Option.isNone_none, Option.isSome_none] at h21)
      refine yg1 rfl rfl ?_
      refine y (ev_fieldAddr 2 rfl Try.underlying73 rfl Try.sizeOf35) rfl ?_
      refine yg1 rfl rfl ?_
      refine y (ev_fieldAddr 11 rfl Try.underlying35 rfl Try.sizeOf9) rfl ?_
      refine yg1 rfl rfl ?_
      refine y (ev_load rfl Try.isAgg9 (by repeat first | exact .z | apply In.s) rfl) rfl ?_
      refine yg1 rfl rfl ?_
      first
        | refine y (ev_lenStr rfl Try.underlying9) rfl ?_
        | refine y (ev_lenS rfl Try.underlying9) rfl ?_
      refine yg1 rfl rfl ?_
      refine y (ev_gtr rfl rfl) rfl ?_
      refine y (ev_pick0 rfl rfl) rfl ?_
      refine y (ev_move rfl) rfl ?_
      refine ysplit 20 rfl (fun h33 => ?_) (fun h33 => ?_)
      · (try simp only [decide_eq_true_eq, beq_iff_eq, beq_eq_false_iff_ne, decide_eq_decide, decide_eq_false_iff_not, Bool.not_eq_true', Bool.not_eq_false', Bool.not_eq_true, Bool.not_eq_false, Bool.not_not, ne_eq, Option.isNone_some, Option.isSome_some, Option.isNone_none, Option.isSome_none] at h33)
        refine yg0 rfl rfl rfl rfl ?_
        refine yg0 rfl rfl rfl rfl ?_
        refine yg0 rfl rfl rfl rfl ?_
        refine yg0 rfl rfl rfl rfl ?_
        refine yg0 rfl rfl rfl rfl ?_
        refine y (ev_pick1 rfl rfl) rfl ?_
        refine y (ev_assign rfl) rfl ?_
        refine ynil' (kthn (hK2 _ _ ?_))
        clear hK2
        refine cret ?_
        first
          | (exfalso; omega; done)
          | (refine kretv Try.results34 rfl (L1 := [] ++ R) (by repeat first | exact .refl | exact .nil | exact .z | apply Pk.s | refine Ge.e ?_ | apply Ge.pick | apply Ge.drop) ?_
             exact ⟨_, ⟨_, rfl, fun h => by first | omega | (simp at h; done) | (simp at h; omega), rfl⟩, rfl⟩)
      · (try simp only [decide_eq_true_eq, beq_iff_eq, beq_eq_false_iff_ne, decide_eq_decide, decide_eq_false_iff_not, Bool.not_eq_true', Bool.not_eq_false', Bool.not_eq_true, Bool.not_eq_false, Bool.not_not, ne_eq, Option.isNone_some, Option.isSome_some, Option.isNone_none, Option.isSome_none] at h33)
        refine yg1 rfl rfl ?_
        refine y (ev_fieldAddr 2 rfl Try.underlying73 rfl Try.sizeOf35) rfl ?_
        refine yg1 rfl rfl ?_
        refine y (ev_fieldAddr 12 rfl Try.underlying35 rfl Try.sizeOf9) rfl ?_
        refine yg1 rfl rfl ?_
        refine y (ev_load rfl Try.isAgg9 (by repeat first | exact .z | apply In.s) rfl) rfl ?_
        refine yg1 rfl rfl ?_
        first
          | refine y (ev_lenStr rfl Try.underlying9) rfl ?_
          | refine y (ev_lenS rfl Try.underlying9) rfl ?_
        refine yg1 rfl rfl ?_
        refine y (ev_gtr rfl rfl) rfl ?_
        refine y (ev_pick0 rfl rfl) rfl ?_
        refine y (ev_assign rfl) rfl ?_
        refine ynil' (kthn (hK2 _ _ ?_))
        clear hK2
        refine cret ?_
        first
          | (exfalso; omega; done)
          | (refine kretv Try.results34 rfl (L1 := [] ++ R) (by repeat first | exact .refl | exact .nil | exact .z | apply Pk.s | refine Ge.e ?_ | apply Ge.pick | apply Ge.drop) ?_
             exact ⟨_, ⟨_, rfl, fun h => by first | omega | (simp at h; done) | (simp at h; omega), rfl⟩, rfl⟩)
structure LbM where
  tok : Int
  s : Nat
  t : Nat
  ps : List Nat
  S : StoM
  D : Dev
theorem actbsV_at {l : List ActB} {i r : Nat} {a : ActB} (h : l[i]? = some a) (hr : r < 17) : (actbsV l)[i * 17 + r]? = a.cells[r]? := by
  have := flatten_get (f := ActB.cells) (k := 17) (by omega) (fun _ => rfl) l i r hr
  rw [h] at this
  exact this
theorem lawFences [Env] {R : List Seg} {bv : Int} {lv : Value} {acts : List ActB} (hb : 0 ≤ bv ∧ bv ≤ 255) (hl : RdV R lv acts.length (actbsV acts)) (haa : ∀ a ∈ acts, a.ok R) :
    Con Try.prog 12 [.int .u8 bv, lv] [] R (Is (.bool true) []) := by
  have hvl := hl.lenVal
  refine con_enter Try.func12 Try.ntmps12 rfl rfl ?_
  refine cseq ?_; intro K1 hK1
  refine creg ?_
  refine y (ev_assign rfl) rfl ?_
  refine ynil' (kthn (hK1 _ _ ?_))
  clear hK1
  refine cseq ?_; intro K2 hK2
  refine cseq ?_; intro K3 hK3
  refine creg ?_
  refine ycall (bAwake) rfl Try.call20 (by repeat first | exact .nil | exact .z | apply Pk.s | apply Tk.cons) rfl ?_
  rintro v L' ⟨rfl, rfl⟩
  skip
  · skip
    refine y (ev_not rfl) rfl ?_
    refine ynil' (kthn (hK3 _ _ ?_))
    clear hK3
    refine ccond0 rfl ?_
    refine cskip' (kthn (hK2 _ _ ?_))
    clear hK2
    refine cseq ?_; intro K4 hK4
    refine creg ?_
    refine y (ev_move rfl) rfl ?_
    refine ycall (bNew hb) rfl Try.call21 (by repeat first | exact .nil | exact .z | apply Pk.s | apply Tk.cons) rfl ?_
    rintro v L' ⟨s23, t23, ps23, q23, hps23, rfl, rfl⟩
    obtain ⟨n1, n32⟩ := nBl_le bv
    have hF0 := FenI.new n32
    have hE0 : (0 : Int) = (openS (Dev.new (2 + 2 * nBl bv)) 0 (nBl bv)).epoch := (newS_epoch (nBl bv)).symm
    generalize hn0 : nBl bv = n at *
    generalize openS (Dev.new (2 + 2 * n)) 0 n = S0 at *
    generalize Dev.new (2 + 2 * n) = D0 at *
    refine y (ev_move rfl) rfl ?_
    refine y (ev_extract rfl rfl) rfl ?_
    refine y (ev_extract rfl rfl) rfl ?_
    refine y (ev_extract rfl rfl) rfl ?_
    refine y (ev_assign rfl) rfl ?_
    refine y (ev_assign rfl) rfl ?_
    refine y (ev_assign rfl) rfl ?_
    refine ynil' (kthn (hK4 _ _ ?_))
    clear hK4
    refine cseq ?_; intro K5 hK5
    refine cseq ?_; intro K6 hK6
    refine creg ?_
    refine y (ev_move rfl) rfl ?_
    skip
    · skip
      refine y (ev_eqlPnil rfl rfl Try.underlying42) rfl ?_
      refine ynil' (kthn (hK6 _ _ ?_))
      clear hK6
      refine ccond0 rfl ?_
      refine cskip' (kthn (hK5 _ _ ?_))
      clear hK5
      refine cseq ?_; intro K7 hK7
      refine creg ?_
      refine y (ev_assign rfl) rfl ?_
      refine ynil' (kthn (hK7 _ _ ?_))
      clear hK7
      refine cseq ?_; intro K8 hK8
      refine cseq ?_; intro K9 hK9
      refine creg ?_
      refine y (ev_assign rfl) rfl ?_
      refine ynil' (kthn (hK9 _ _ ?_))
      clear hK9
      refine cblock ?_
      refine cloop (A := Nat × LbM) (fun x => [(9, i64 x.1), (8, i64 x.2.tok), (5, dp q23), (6, ptr x.2.s), (7, i64 n), (1, lv)]) (fun x => [stoP x.2.s x.2.t x.2.ps x.2.S, celP x.2.t q23 x.2.S.tok, celsP x.2.ps q23 x.2.S.cs, dev q23 x.2.D] ++ R) (fun x => FenI x.2.S x.2.D n x.1 ∧ x.2.ps.length = n ∧ x.2.tok = x.2.S.epoch ∧ x.1 ≤ acts.length ∧ x.1 ≤ 60) (fun x => 60 - x.1) ((0, ⟨0, s23, t23, ps23, S0, D0⟩)) ?_ (by repeat first | exact sub_nil | refine sub_cons rfl ?_ | refine sub_cons' rfl (by simp) ?_) (by repeat first | exact .refl | exact .nil | exact .z | apply Pk.s | refine Ge.e ?_ | apply Ge.pick | apply Ge.drop) ?_
      · exact ⟨hF0, hps23, hE0, Nat.zero_le _, Nat.zero_le _⟩
      rintro ⟨i, tk, s, t, ps, S, D⟩ hI1 KL1 hL1
      obtain ⟨hF, hps, htk0, hi1, hi2⟩ := hI1; dsimp only at hF hps htk0 hi1 hi2 ⊢; subst htk0; obtain ⟨hok, hDl⟩ := hF.ok n32 hps
      refine cseq ?_; intro K10 hK10
      refine cseq ?_; intro K11 hK11
      refine creg ?_
      refine y (ev_move rfl) rfl ?_
      refine y (ev_move rfl) rfl ?_
      first
        | refine y (ev_len rfl Try.underlying71) rfl ?_
        | refine y (ev_lenSv rfl Try.underlying71 (by assumption)) rfl ?_
        | refine y (ev_lenV rfl Try.underlying71 (RdV.lenVal (by assumption))) rfl ?_
        | refine y (ev_lenV rfl Try.underlying71 (RdB.lenVal (by assumption))) rfl ?_
      refine y (ev_lss rfl rfl) rfl ?_
      refine y (ev_move rfl) rfl ?_
      refine ysplit 33 rfl (fun h64 => ?_) (fun h64 => ?_)
      · (try simp only [decide_eq_true_eq, beq_iff_eq, beq_eq_false_iff_ne, decide_eq_decide, decide_eq_false_iff_not, Bool.not_eq_true', Bool.not_eq_false', Bool.not_eq_true, Bool.not_eq_false, Bool.not_not, ne_eq, Option.isNone_some, Option.isSome_some, Option.isNone_none, Option.isSome_none] at h64)
        refine yg1 rfl rfl ?_
        refine y (ev_move rfl) rfl ?_
        refine yg1 rfl rfl ?_
        refine y (ev_lss rfl rfl) rfl ?_
        refine y (ev_pick1 rfl rfl) rfl ?_
        refine ynil' (kthn (hK11 _ _ ?_))
        clear hK11
        refine ccond rfl (fun h68 => ?_) (fun h68 => ?_)
        · (try simp only [decide_eq_true_eq, beq_iff_eq, beq_eq_false_iff_ne, decide_eq_decide, decide_eq_false_iff_not, Bool.not_eq_true', Bool.not_eq_false', Bool.not_eq_true, Bool.not_eq_false, Bool.not_not, ne_eq, Option.isNone_some, Option.isSome_some, Option.isNone_none, Option.isSome_none] at h68)
          refine cskip' (kthn (hK10 _ _ ?_))
          clear hK10
          refine cseq ?_; intro K12 hK12
          refine cblock ?_
          refine cseq ?_; intro K13 hK13
          refine creg ?_
          obtain ⟨a, hka⟩ : ∃ a, acts[i]? = some a := ⟨_, List.getElem?_eq_getElem (by omega)⟩
          have hact := haa a (List.mem_of_getElem? hka)
          have hkk := hact.keeps
          have hxn := hact.n
          refine y (ev_move rfl) rfl ?_
          refine y (ev_move rfl) rfl ?_
          refine y (ev_ixV hl rfl rfl Try.underlying71 Try.sizeOf73 (by omega) (by omega)) rfl ?_
          refine y (ev_loadNV (us := a.cells) (i * 17) hl (by repeat first | exact .refl | exact .nil | exact .z | apply Pk.s | refine Ge.e ?_ | apply Ge.pick | apply Ge.drop) rfl Try.isAgg73 Try.sizeOf73 (by simp) (actbsV_get hka) rfl) rfl ?_
          refine ya (ac_alloc Try.zeroValue73 rfl) rfl ?_
          rintro v L' ⟨b10, rfl, rfl⟩
          refine ya0 (ac_storeAll rfl rfl hact.one Try.sizeOf73 (by repeat first | exact .z | apply Rp.s) (by rfl) (by rfl)) ?_
          rintro v L' ⟨rfl, rfl⟩
          refine ynil' (kthn (hK13 _ _ ?_))
          clear hK13
          refine cseq ?_; intro K14 hK14
          refine cseq ?_; intro K15 hK15
          refine creg ?_
          refine y (ev_loadN (u := a.cells) rfl Try.isAgg73 Try.sizeOf73 (by repeat first | exact .z | apply In.s) rfl rfl) rfl ?_
          refine ycall (bLarge (x := a) ?lx76) rfl Try.call34 (by repeat first | exact .nil | exact .z | apply Pk.s | apply Tk.cons) rfl ?_
          case lx76 => exact hact.mono (by repeat first | exact .refl | exact .nil | exact .z | apply Pk.s | refine Ge.e ?_ | apply Ge.pick | apply Ge.drop)
          rintro v L' ⟨big44, rfl, hbig44, rfl⟩
          refine ynil' (kthn (hK15 _ _ ?_))
          clear hK15
          refine ccond rfl (fun h77 => ?_) (fun h77 => ?_)
          · (try simp only [decide_eq_true_eq, beq_iff_eq, beq_eq_false_iff_ne, decide_eq_decide, decide_eq_false_iff_not, Bool.not_eq_true', Bool.not_eq_false', Bool.not_eq_true, Bool.not_eq_false, Bool.not_not, ne_eq, Option.isNone_some, Option.isSome_some, Option.isNone_none, Option.isSome_none] at h77)
            refine cseq ?_; intro K16 hK16
            refine creg ?_
            refine y (ev_assign rfl) rfl ?_
            refine ynil' (kthn (hK16 _ _ ?_))
            clear hK16
            refine cret (kthr (kbr (kthr (kthr (kbr (kthr ?_))))))
            first
              | (exfalso; omega; done)
              | (refine kretv Try.results12 rfl (L1 := R) (by repeat first | exact .refl | exact .nil | exact .z | apply Pk.s | refine Ge.e ?_ | apply Ge.pick | apply Ge.drop) ?_
                 exact ⟨_, ⟨by first | rfl | (exfalso; simp_all; done), rfl⟩, by first | rfl | (exfalso; simp_all; done)⟩)
          · (try simp only [decide_eq_true_eq, beq_iff_eq, beq_eq_false_iff_ne, decide_eq_decide, decide_eq_false_iff_not, Bool.not_eq_true', Bool.not_eq_false', Bool.not_eq_true, Bool.not_eq_false, Bool.not_not, ne_eq, Option.isNone_some, Option.isSome_some, Option.isNone_none, Option.isSome_none] at h77)
            have hks := hbig44 h77
            refine cskip' (kthn (hK14 _ _ ?_))
            clear hK14
            refine cseq ?_; intro K17 hK17
            have hJr37 : ∀ x : LbM, (FenI x.S x.D n (i + 1) ∧ x.ps.length = n ∧ x.tok ≤ x.S.epoch) → Sk 178 K17 ([(9, i64 i), (8, i64 x.tok), (5, dp q23), (6, ptr x.s), (7, i64 n), (1, lv)]) ([stoP x.s x.t x.ps x.S, celP x.t q23 x.S.tok, celsP x.ps q23 x.S.cs, dev q23 x.D] ++ R) := by
              rintro ⟨tk, s, t, ps, S, D⟩ hIr37
              refine hK17 _ _ ?_
              obtain ⟨hF, hps, htk⟩ := hIr37; dsimp only at hF hps htk ⊢
              refine cseq ?_; intro K18 hK18
              refine cseq ?_; intro K19 hK19
              refine creg ?_
              refine y (ev_move rfl) rfl ?_
              refine ycall (bToken) rfl Try.call23 (by repeat first | exact .nil | exact .z | apply Pk.s | apply Tk.cons) rfl ?_
              rintro v L' ⟨rfl, rfl⟩
              refine y (ev_move rfl) rfl ?_
              refine y (ev_lss rfl rfl) rfl ?_
              refine ynil' (kthn (hK19 _ _ ?_))
              clear hK19
              refine ccond rfl (fun h83 => ?_) (fun h83 => ?_)
              · (try simp only [decide_eq_true_eq, beq_iff_eq, beq_eq_false_iff_ne, decide_eq_decide, decide_eq_false_iff_not, Bool.not_eq_true', Bool.not_eq_false', Bool.not_eq_true, Bool.not_eq_false, Bool.not_not, ne_eq, Option.isNone_some, Option.isSome_some, Option.isNone_none, Option.isSome_none] at h83)
                exfalso; omega
              · (try simp only [decide_eq_true_eq, beq_iff_eq, beq_eq_false_iff_ne, decide_eq_decide, decide_eq_false_iff_not, Bool.not_eq_true', Bool.not_eq_false', Bool.not_eq_true, Bool.not_eq_false, Bool.not_not, ne_eq, Option.isNone_some, Option.isSome_some, Option.isNone_none, Option.isSome_none] at h83)
                refine cskip' (kthn (hK18 _ _ ?_))
                clear hK18
                refine creg ?_
                refine y (ev_move rfl) rfl ?_
                refine ycall (bToken) rfl Try.call23 (by repeat first | exact .nil | exact .z | apply Pk.s | apply Tk.cons) rfl ?_
                rintro v L' ⟨rfl, rfl⟩
                refine y (ev_assign rfl) rfl ?_
                refine ynil' (kbn (kthn (hK12 _ _ ?_)))
                clear hK12
                refine creg ?_
                refine y (ev_move rfl) rfl ?_
                refine y (ev_add rfl rfl) rfl ?_
                rw [show IntKind.i64.wrap ((i:Int) + 1) = ((i+1 : Nat) : Int) by rw [wr (by omega) (by omega)]; rfl]
                refine y (ev_assign rfl) rfl ?_
                refine ynil' (kthn ?_)
                exact hL1 ((i + 1, ⟨S.epoch, s, t, ps, S, D⟩)) (⟨hF, hps, rfl, by dsimp only; omega, by dsimp only; omega⟩) (by dsimp only; omega) _ _ (by repeat first | exact sub_nil | refine sub_cons rfl ?_ | refine sub_cons' rfl (by simp) ?_) (by repeat first | exact .refl | exact .nil | exact .z | apply Pk.s | refine Ge.e ?_ | apply Ge.pick | apply Ge.drop)
            clear hK17
            refine cseq ?_; intro K20 hK20
            refine creg ?_
            refine y (ev_fieldAddr 0 rfl Try.underlying73 rfl Try.sizeOf3) rfl ?_
            refine y (ev_load rfl Try.isAgg3 (by repeat first | exact .z | apply In.s) rfl) rfl ?_
            refine ynil' (kthn (hK20 _ _ ?_))
            clear hK20
            refine cblock ?_
            refine cseq ?_; intro K21 hK21
            refine creg ?_
            refine y (ev_eql rfl rfl) rfl ?_
            refine y (ev_assign rfl) rfl ?_
            refine ynil' (kthn (hK21 _ _ ?_))
            clear hK21
            refine ccond rfl (fun h94 => ?_) (fun h94 => ?_)
            · (try simp only [decide_eq_true_eq, beq_iff_eq, beq_eq_false_iff_ne, decide_eq_decide, decide_eq_false_iff_not, Bool.not_eq_true', Bool.not_eq_false', Bool.not_eq_true, Bool.not_eq_false, Bool.not_not, ne_eq, Option.isNone_some, Option.isSome_some, Option.isNone_none, Option.isSome_none] at h94)
              refine cseq ?_; intro K22 hK22
              refine creg ?_
              refine y (ev_move rfl) rfl ?_
              refine y (ev_fieldAddr 2 rfl Try.underlying73 rfl Try.sizeOf35) rfl ?_
              refine y (ev_fieldAddr 4 rfl Try.underlying35 rfl Try.sizeOf3) rfl ?_
              refine y (ev_load rfl Try.isAgg3 (by repeat first | exact .z | apply In.s) rfl) rfl ?_
              refine ycall (bGet hok.wf) rfl Try.call25 (by repeat first | exact .nil | exact .z | apply Pk.s | apply Tk.cons) rfl ?_
              rintro v L' ⟨rfl, rfl⟩
              refine y (ev_move rfl) rfl ?_
              refine y (ev_extract rfl rfl) rfl ?_
              refine y (ev_extract rfl rfl) rfl ?_
              refine ya (ac_alloc Try.zeroValue50 rfl) rfl ?_
              rintro v L' ⟨b11, rfl, rfl⟩
              refine ya0 (ac_storeAll rfl rfl (by first | exact bytesV_one _ | (simp [Value.oneCell']; done) | (simp only [List.forall_mem_cons, List.not_mem_nil, false_implies, implies_true, svVal_one, and_true, true_and, and_self]; first | done | simp [Value.oneCell'])) Try.sizeOf50 (by repeat first | exact .z | apply Rp.s) (by first | rfl | assumption | (simp [*]; done) | (simp [*]; omega)) (by first | rfl | assumption | (simp [*]; done) | (simp [*]; omega))) ?_
              rintro v L' ⟨rfl, rfl⟩
              refine y (ev_assign rfl) rfl ?_
              refine ynil' (kthn (hK22 _ _ ?_))
              clear hK22
              refine cseq ?_; intro K23 hK23
              refine creg ?_
              refine y (ev_move rfl) rfl ?_
              refine y (ev_fieldAddr 2 rfl Try.underlying73 rfl Try.sizeOf35) rfl ?_
              refine y (ev_loadN (u := a.m.cells) rfl Try.isAgg35 Try.sizeOf35 (by repeat first | exact .z | apply In.s) rfl rfl) rfl ?_
              refine ycall (bTake (m := a.m) hok) rfl Try.call22 (by repeat first | exact .nil | exact .z | apply Pk.s | apply Tk.cons) rfl ?_
              rintro v L' ⟨rfl, rfl⟩
              obtain ⟨r, hr0⟩ : ∃ r, S.take D a.m = r := ⟨_, rfl⟩
              obtain ⟨hF2, hst⟩ := hF.take n32 (by omega) a.m hr0
              rw [hr0]
              clear hr0
              obtain ⟨⟨o, is⟩, S2, D2⟩ := r
              dsimp only at hF2 hst ⊢
              obtain ⟨hok2, hDl2⟩ := hF2.ok n32 hps
              refine y (ev_move rfl) rfl ?_
              refine y (ev_extract rfl rfl) rfl ?_
              refine y (ev_extract rfl rfl) rfl ?_
              refine ya (ac_alloc Try.zeroValue35 rfl) rfl ?_
              rintro v L' ⟨b13, rfl, rfl⟩
              refine ya0 (ac_storeAll rfl rfl (msg_one o) Try.sizeOf35 (by repeat first | exact .z | apply Rp.s) (by rfl) (by rfl)) ?_
              rintro v L' ⟨rfl, rfl⟩
              refine y (ev_assign rfl) rfl ?_
              refine ynil' (kthn (hK23 _ _ ?_))
              clear hK23
              refine cseq ?_; intro K24 hK24
              refine creg ?_
              refine y (ev_move rfl) rfl ?_
              refine y (ev_fieldAddr 2 rfl Try.underlying73 rfl Try.sizeOf35) rfl ?_
              refine y (ev_fieldAddr 4 rfl Try.underlying35 rfl Try.sizeOf3) rfl ?_
              refine y (ev_load rfl Try.isAgg3 (by repeat first | exact .z | apply In.s) rfl) rfl ?_
              refine ycall (bGet hok2.wf) rfl Try.call25 (by repeat first | exact .nil | exact .z | apply Pk.s | apply Tk.cons) rfl ?_
              rintro v L' ⟨rfl, rfl⟩
              refine y (ev_move rfl) rfl ?_
              refine y (ev_extract rfl rfl) rfl ?_
              refine y (ev_extract rfl rfl) rfl ?_
              refine ya (ac_alloc Try.zeroValue50 rfl) rfl ?_
              rintro v L' ⟨b15, rfl, rfl⟩
              refine ya0 (ac_storeAll rfl rfl (by first | exact bytesV_one _ | (simp [Value.oneCell']; done) | (simp only [List.forall_mem_cons, List.not_mem_nil, false_implies, implies_true, svVal_one, and_true, true_and, and_self]; first | done | simp [Value.oneCell'])) Try.sizeOf50 (by repeat first | exact .z | apply Rp.s) (by first | rfl | assumption | (simp [*]; done) | (simp [*]; omega)) (by first | rfl | assumption | (simp [*]; done) | (simp [*]; omega))) ?_
              rintro v L' ⟨rfl, rfl⟩
              refine y (ev_assign rfl) rfl ?_
              refine ynil' (kthn (hK24 _ _ ?_))
              clear hK24
              refine cseq ?_; intro K25 hK25
              have hJr20 : ∀ x : Unit, (True) → Sk 178 K25 ([(14, .bool is), (13, ptr b13), (10, ptr b10), (9, i64 i), (8, i64 S.epoch), (5, dp q23), (6, ptr s), (7, i64 n), (1, lv)]) ([sc b13 o.cells 35, sc b10 a.cells 73, stoP s t ps S2, celP t q23 S2.tok, celsP ps q23 S2.cs, dev q23 D2] ++ R) := by
                rintro x hIr20
                refine hK25 _ _ ?_
                refine cseq ?_; intro K26 hK26
                refine cseq ?_; intro K27 hK27
                refine cdraw 28 [(0, true), (1, true), (2, true), (3, true), (4, true), (5, true), (6, true), (7, true), (8, true), (9, true), (10, true), (11, true), (12, true), (13, true), (14, true), (15, true), (16, true), (17, true), (18, true), (19, true), (20, true), (21, true), (23, true), (24, true), (25, true), (22, false), (26, true), (27, true)] (_) Try.mixed (by kernel_rfl) .refl ?_
                rcases Bool.eq_false_or_eq_true is with rfl | rfl
                · skip
                  refine hr rfl (ev_move rfl) rfl ?_
                  refine hr rfl (ev_move rfl) rfl ?_
                  refine hr1 rfl rfl rfl (ev_fieldAddr 2 rfl Try.underlying73 rfl Try.sizeOf35) rfl ?_
                  refine hr1 rfl rfl rfl (ev_fieldAddr 1 rfl Try.underlying35 rfl Try.sizeOf2) rfl ?_
                  refine hr1 rfl rfl rfl (ev_load rfl Try.isAgg2 (by repeat first | exact .z | apply In.s) rfl) rfl ?_
                  refine hr1 rfl rfl rfl (ev_move rfl) rfl ?_
                  refine hr1 rfl rfl rfl (ev_geq rfl rfl) rfl ?_
                  refine hr rfl (ev_pick1 rfl rfl) rfl ?_
                  refine hr rfl (ev_move rfl) rfl ?_
                  refine hsplit 103 rfl (fun h136 => ?_) (fun h136 => ?_)
                  · (try simp only [decide_eq_true_eq, beq_iff_eq, beq_eq_false_iff_ne, decide_eq_decide, decide_eq_false_iff_not, Bool.not_eq_true', Bool.not_eq_false', Bool.not_eq_true, Bool.not_eq_false, Bool.not_not, ne_eq, Option.isNone_some, Option.isSome_some, Option.isNone_none, Option.isSome_none] at h136)
                    refine hr1 rfl rfl rfl (ev_fieldAddr 6 rfl Try.underlying35 rfl Try.sizeOf32) rfl ?_
                    refine hr1 rfl rfl rfl (ev_load rfl Try.isAgg32 (by repeat first | exact .z | apply In.s) rfl) rfl ?_
                    refine hr1 rfl rfl rfl (ev_eql rfl rfl) rfl ?_
                    refine hr rfl (ev_pick1 rfl rfl) rfl ?_
                    refine hr rfl (ev_move rfl) rfl ?_
                    refine hsplit 108 rfl (fun h142 => ?_) (fun h142 => ?_)
                    · (try simp only [decide_eq_true_eq, beq_iff_eq, beq_eq_false_iff_ne, decide_eq_decide, decide_eq_false_iff_not, Bool.not_eq_true', Bool.not_eq_false', Bool.not_eq_true, Bool.not_eq_false, Bool.not_not, ne_eq, Option.isNone_some, Option.isSome_some, Option.isNone_none, Option.isSome_none] at h142)
                      exfalso; exact hst.not24 (by omega) rfl (by assumption)
                    · (try simp only [decide_eq_true_eq, beq_iff_eq, beq_eq_false_iff_ne, decide_eq_decide, decide_eq_false_iff_not, Bool.not_eq_true', Bool.not_eq_false', Bool.not_eq_true, Bool.not_eq_false, Bool.not_not, ne_eq, Option.isNone_some, Option.isSome_some, Option.isNone_none, Option.isSome_none] at h142)
                      refine hr1 rfl rfl rfl (ev_move rfl) rfl ?_
                      refine hr1 rfl rfl rfl (ev_move rfl) rfl ?_
                      refine hr1 rfl rfl rfl (ev_fieldAddr 6 rfl Try.underlying35 rfl Try.sizeOf32) rfl ?_
                      refine hr1 rfl rfl rfl (ev_load rfl Try.isAgg32 (by repeat first | exact .z | apply In.s) rfl) rfl ?_
                      refine hr1 rfl rfl rfl (ev_eql rfl rfl) rfl ?_
                      refine hr1 rfl rfl rfl (ev_pick1 rfl rfl) rfl ?_
                      refine hr1 rfl rfl rfl (ev_move rfl) rfl ?_
                      refine hsplit 115 rfl (fun h150 => ?_) (fun h150 => ?_)
                      · (try simp only [decide_eq_true_eq, beq_iff_eq, beq_eq_false_iff_ne, decide_eq_decide, decide_eq_false_iff_not, Bool.not_eq_true', Bool.not_eq_false', Bool.not_eq_true, Bool.not_eq_false, Bool.not_not, ne_eq, Option.isNone_some, Option.isSome_some, Option.isNone_none, Option.isSome_none] at h150)
                        refine hr1 rfl rfl rfl (ev_move rfl) rfl ?_
                        refine hr1 rfl rfl rfl (ev_fieldAddr 2 rfl Try.underlying73 rfl Try.sizeOf35) rfl ?_
                        refine hr1 rfl rfl rfl (ev_fieldAddr 1 rfl Try.underlying35 rfl Try.sizeOf2) rfl ?_
                        refine hr1 rfl rfl rfl (ev_load rfl Try.isAgg2 (by repeat first | exact .z | apply In.s) rfl) rfl ?_
                        refine hcall1 rfl rfl rfl (bToken) rfl Try.call23 (by repeat first | exact .nil | exact .z | apply Pk.s | apply Tk.cons) rfl ?_
                        rintro v L' ⟨rfl, rfl⟩; refine ⟨(by repeat first | exact .refl | exact .nil | exact .z | apply Pk.s | refine Ge.e ?_ | apply Ge.pick | apply Ge.drop), ?_⟩
                        refine hr1 rfl rfl rfl (ev_lss rfl rfl) rfl ?_
                        refine hr1 rfl rfl rfl (ev_pick1 rfl rfl) rfl ?_
                        refine hnil ?_
                        refine y (ev_pick0 rfl rfl) rfl ?_
                        refine hnoP' (kthn (hK27 _ _ ?_))
                        clear hK27
                        refine ccond rfl (fun h159 => ?_) (fun h159 => ?_)
                        · (try simp only [decide_eq_true_eq, beq_iff_eq, beq_eq_false_iff_ne, decide_eq_decide, decide_eq_false_iff_not, Bool.not_eq_true', Bool.not_eq_false', Bool.not_eq_true, Bool.not_eq_false, Bool.not_not, ne_eq, Option.isNone_some, Option.isSome_some, Option.isNone_none, Option.isSome_none] at h159)
                          exfalso; have := hst.up rfl (by assumption); omega
                        · (try simp only [decide_eq_true_eq, beq_iff_eq, beq_eq_false_iff_ne, decide_eq_decide, decide_eq_false_iff_not, Bool.not_eq_true', Bool.not_eq_false', Bool.not_eq_true, Bool.not_eq_false, Bool.not_not, ne_eq, Option.isNone_some, Option.isSome_some, Option.isNone_none, Option.isSome_none] at h159)
                          refine cskip' (kthn (hK26 _ _ ?_))
                          clear hK26
                          refine cseq ?_; intro K28 hK28
                          refine creg ?_
                          have hst1 := hst.mono; have hst2 := hst.up; dsimp only at hst2
                          refine y (ev_move rfl) rfl ?_
                          refine y (ev_move rfl) rfl ?_
                          refine ysplit 125 rfl (fun h162 => ?_) (fun h162 => ?_)
                          · (try simp only [decide_eq_true_eq, beq_iff_eq, beq_eq_false_iff_ne, decide_eq_decide, decide_eq_false_iff_not, Bool.not_eq_true', Bool.not_eq_false', Bool.not_eq_true, Bool.not_eq_false, Bool.not_not, ne_eq, Option.isNone_some, Option.isSome_some, Option.isNone_none, Option.isSome_none] at h162)
                            refine yg1 rfl rfl ?_
                            refine y (ev_fieldAddr 6 rfl Try.underlying35 rfl Try.sizeOf32) rfl ?_
                            refine yg1 rfl rfl ?_
                            refine y (ev_load rfl Try.isAgg32 (by repeat first | exact .z | apply In.s) rfl) rfl ?_
                            refine yg1 rfl rfl ?_
                            refine y (ev_eql rfl rfl) rfl ?_
                            refine y (ev_pick1 rfl rfl) rfl ?_
                            refine ynil' (kthn (hK28 _ _ ?_))
                            clear hK28
                            refine ccond rfl (fun h167 => ?_) (fun h167 => ?_)
                            · (try simp only [decide_eq_true_eq, beq_iff_eq, beq_eq_false_iff_ne, decide_eq_decide, decide_eq_false_iff_not, Bool.not_eq_true', Bool.not_eq_false', Bool.not_eq_true, Bool.not_eq_false, Bool.not_not, ne_eq, Option.isNone_some, Option.isSome_some, Option.isNone_none, Option.isSome_none] at h167)
                              have hFj := hF2; have hpj := hps; have htj : max S.epoch a.m.epoch ≤ S2.epoch := by have := hst2 (by first | rfl | assumption) (by assumption); omega
                              refine creg ?_
                              refine y (ev_move rfl) rfl ?_
                              refine y (ev_fieldAddr 2 rfl Try.underlying73 rfl Try.sizeOf35) rfl ?_
                              refine y (ev_fieldAddr 1 rfl Try.underlying35 rfl Try.sizeOf2) rfl ?_
                              refine y (ev_load rfl Try.isAgg2 (by repeat first | exact .z | apply In.s) rfl) rfl ?_
                              refine y (ev_max rfl rfl) rfl ?_
                              rw [show (if a.m.epoch > S.epoch then a.m.epoch else S.epoch) = max S.epoch a.m.epoch by split <;> omega]
                              refine y (ev_assign rfl) rfl ?_
                              refine ynil' (kbn (kthn ?_))
                              exact ksub (by repeat first | exact sub_nil | refine sub_cons rfl ?_ | refine sub_cons' rfl (by simp) ?_) (by repeat first | exact .refl | exact .nil | exact .z | apply Pk.s | refine Ge.e ?_ | apply Ge.pick | apply Ge.drop) (hJr37 ⟨_, _, _, _, _, _⟩ (by first | exact ⟨hFj, hpj, htj⟩))
                            · (try simp only [decide_eq_true_eq, beq_iff_eq, beq_eq_false_iff_ne, decide_eq_decide, decide_eq_false_iff_not, Bool.not_eq_true', Bool.not_eq_false', Bool.not_eq_true, Bool.not_eq_false, Bool.not_not, ne_eq, Option.isNone_some, Option.isSome_some, Option.isNone_none, Option.isSome_none] at h167)
                              have hFj := hF2; have hpj := hps; have htj : S.epoch ≤ S2.epoch := hst1
                              refine cskip' (kbn (kthn ?_))
                              exact ksub (by repeat first | exact sub_nil | refine sub_cons rfl ?_ | refine sub_cons' rfl (by simp) ?_) (by repeat first | exact .refl | exact .nil | exact .z | apply Pk.s | refine Ge.e ?_ | apply Ge.pick | apply Ge.drop) (hJr37 ⟨_, _, _, _, _, _⟩ (by first | exact ⟨hFj, hpj, htj⟩))
                          · (try simp only [decide_eq_true_eq, beq_iff_eq, beq_eq_false_iff_ne, decide_eq_decide, decide_eq_false_iff_not, Bool.not_eq_true', Bool.not_eq_false', Bool.not_eq_true, Bool.not_eq_false, Bool.not_not, ne_eq, Option.isNone_some, Option.isSome_some, Option.isNone_none, Option.isSome_none] at h162)
                            have hFj := hF2; have hpj := hps; have htj : S.epoch ≤ S2.epoch := hst1
                            refine yg0 rfl rfl rfl rfl ?_
                            refine yg0 rfl rfl rfl rfl ?_
                            refine yg0 rfl rfl rfl rfl ?_
                            refine y (ev_pick0 rfl rfl) rfl ?_
                            refine ynil' (kthn (hK28 _ _ ?_))
                            clear hK28
                            refine ccond0 rfl ?_
                            refine cskip' (kbn (kthn ?_))
                            exact ksub (by repeat first | exact sub_nil | refine sub_cons rfl ?_ | refine sub_cons' rfl (by simp) ?_) (by repeat first | exact .refl | exact .nil | exact .z | apply Pk.s | refine Ge.e ?_ | apply Ge.pick | apply Ge.drop) (hJr37 ⟨_, _, _, _, _, _⟩ (by first | exact ⟨hFj, hpj, htj⟩))
                      · (try simp only [decide_eq_true_eq, beq_iff_eq, beq_eq_false_iff_ne, decide_eq_decide, decide_eq_false_iff_not, Bool.not_eq_true', Bool.not_eq_false', Bool.not_eq_true, Bool.not_eq_false, Bool.not_not, ne_eq, Option.isNone_some, Option.isSome_some, Option.isNone_none, Option.isSome_none] at h150)
                        refine hr0 rfl rfl rfl rfl rfl ?_
                        refine hr0 rfl rfl rfl rfl rfl ?_
                        refine hr0 rfl rfl rfl rfl rfl ?_
                        refine hr0 rfl rfl rfl rfl rfl ?_
                        refine ha0 rfl rfl rfl rfl rfl (by repeat first | exact .refl | exact .nil | exact .z | apply Pk.s | refine Ge.e ?_ | apply Ge.pick | apply Ge.drop) ?_
                        refine hr0 rfl rfl rfl rfl rfl ?_
                        refine hr1 rfl rfl rfl (ev_pick0 rfl rfl) rfl ?_
                        refine hnil ?_
                        refine y (ev_pick0 rfl rfl) rfl ?_
                        refine hnoP' (kthn (hK27 _ _ ?_))
                        clear hK27
                        refine ccond0 rfl ?_
                        refine cskip' (kthn (hK26 _ _ ?_))
                        clear hK26
                        refine cseq ?_; intro K29 hK29
                        refine creg ?_
                        have hst1 := hst.mono; have hst2 := hst.up; dsimp only at hst2
                        refine y (ev_move rfl) rfl ?_
                        refine y (ev_move rfl) rfl ?_
                        refine ysplit 125 rfl (fun h179 => ?_) (fun h179 => ?_)
                        · (try simp only [decide_eq_true_eq, beq_iff_eq, beq_eq_false_iff_ne, decide_eq_decide, decide_eq_false_iff_not, Bool.not_eq_true', Bool.not_eq_false', Bool.not_eq_true, Bool.not_eq_false, Bool.not_not, ne_eq, Option.isNone_some, Option.isSome_some, Option.isNone_none, Option.isSome_none] at h179)
                          refine yg1 rfl rfl ?_
                          refine y (ev_fieldAddr 6 rfl Try.underlying35 rfl Try.sizeOf32) rfl ?_
                          refine yg1 rfl rfl ?_
                          refine y (ev_load rfl Try.isAgg32 (by repeat first | exact .z | apply In.s) rfl) rfl ?_
                          refine yg1 rfl rfl ?_
                          refine y (ev_eql rfl rfl) rfl ?_
                          refine y (ev_pick1 rfl rfl) rfl ?_
                          refine ynil' (kthn (hK29 _ _ ?_))
                          clear hK29
                          refine ccond rfl (fun h184 => ?_) (fun h184 => ?_)
                          · (try simp only [decide_eq_true_eq, beq_iff_eq, beq_eq_false_iff_ne, decide_eq_decide, decide_eq_false_iff_not, Bool.not_eq_true', Bool.not_eq_false', Bool.not_eq_true, Bool.not_eq_false, Bool.not_not, ne_eq, Option.isNone_some, Option.isSome_some, Option.isNone_none, Option.isSome_none] at h184)
                            have hFj := hF2; have hpj := hps; have htj : max S.epoch a.m.epoch ≤ S2.epoch := by have := hst2 (by first | rfl | assumption) (by assumption); omega
                            refine creg ?_
                            refine y (ev_move rfl) rfl ?_
                            refine y (ev_fieldAddr 2 rfl Try.underlying73 rfl Try.sizeOf35) rfl ?_
                            refine y (ev_fieldAddr 1 rfl Try.underlying35 rfl Try.sizeOf2) rfl ?_
                            refine y (ev_load rfl Try.isAgg2 (by repeat first | exact .z | apply In.s) rfl) rfl ?_
                            refine y (ev_max rfl rfl) rfl ?_
                            rw [show (if a.m.epoch > S.epoch then a.m.epoch else S.epoch) = max S.epoch a.m.epoch by split <;> omega]
                            refine y (ev_assign rfl) rfl ?_
                            refine ynil' (kbn (kthn ?_))
                            exact ksub (by repeat first | exact sub_nil | refine sub_cons rfl ?_ | refine sub_cons' rfl (by simp) ?_) (by repeat first | exact .refl | exact .nil | exact .z | apply Pk.s | refine Ge.e ?_ | apply Ge.pick | apply Ge.drop) (hJr37 ⟨_, _, _, _, _, _⟩ (by first | exact ⟨hFj, hpj, htj⟩))
                          · (try simp only [decide_eq_true_eq, beq_iff_eq, beq_eq_false_iff_ne, decide_eq_decide, decide_eq_false_iff_not, Bool.not_eq_true', Bool.not_eq_false', Bool.not_eq_true, Bool.not_eq_false, Bool.not_not, ne_eq, Option.isNone_some, Option.isSome_some, Option.isNone_none, Option.isSome_none] at h184)
                            have hFj := hF2; have hpj := hps; have htj : S.epoch ≤ S2.epoch := hst1
                            refine cskip' (kbn (kthn ?_))
                            exact ksub (by repeat first | exact sub_nil | refine sub_cons rfl ?_ | refine sub_cons' rfl (by simp) ?_) (by repeat first | exact .refl | exact .nil | exact .z | apply Pk.s | refine Ge.e ?_ | apply Ge.pick | apply Ge.drop) (hJr37 ⟨_, _, _, _, _, _⟩ (by first | exact ⟨hFj, hpj, htj⟩))
                        · (try simp only [decide_eq_true_eq, beq_iff_eq, beq_eq_false_iff_ne, decide_eq_decide, decide_eq_false_iff_not, Bool.not_eq_true', Bool.not_eq_false', Bool.not_eq_true, Bool.not_eq_false, Bool.not_not, ne_eq, Option.isNone_some, Option.isSome_some, Option.isNone_none, Option.isSome_none] at h179)
                          have hFj := hF2; have hpj := hps; have htj : S.epoch ≤ S2.epoch := hst1
                          refine yg0 rfl rfl rfl rfl ?_
                          refine yg0 rfl rfl rfl rfl ?_
                          refine yg0 rfl rfl rfl rfl ?_
                          refine y (ev_pick0 rfl rfl) rfl ?_
                          refine ynil' (kthn (hK29 _ _ ?_))
                          clear hK29
                          refine ccond0 rfl ?_
                          refine cskip' (kbn (kthn ?_))
                          exact ksub (by repeat first | exact sub_nil | refine sub_cons rfl ?_ | refine sub_cons' rfl (by simp) ?_) (by repeat first | exact .refl | exact .nil | exact .z | apply Pk.s | refine Ge.e ?_ | apply Ge.pick | apply Ge.drop) (hJr37 ⟨_, _, _, _, _, _⟩ (by first | exact ⟨hFj, hpj, htj⟩))
                  · (try simp only [decide_eq_true_eq, beq_iff_eq, beq_eq_false_iff_ne, decide_eq_decide, decide_eq_false_iff_not, Bool.not_eq_true', Bool.not_eq_false', Bool.not_eq_true, Bool.not_eq_false, Bool.not_not, ne_eq, Option.isNone_some, Option.isSome_some, Option.isNone_none, Option.isSome_none] at h136)
                    refine hr0 rfl rfl rfl rfl rfl ?_
                    refine hr0 rfl rfl rfl rfl rfl ?_
                    refine hr0 rfl rfl rfl rfl rfl ?_
                    refine hr rfl (ev_pick0 rfl rfl) rfl ?_
                    refine hr rfl (ev_move rfl) rfl ?_
                    refine hr1 rfl rfl rfl (ev_move rfl) rfl ?_
                    refine hr1 rfl rfl rfl (ev_move rfl) rfl ?_
                    refine hr1 rfl rfl rfl (ev_fieldAddr 6 rfl Try.underlying35 rfl Try.sizeOf32) rfl ?_
                    refine hr1 rfl rfl rfl (ev_load rfl Try.isAgg32 (by repeat first | exact .z | apply In.s) rfl) rfl ?_
                    refine hr1 rfl rfl rfl (ev_eql rfl rfl) rfl ?_
                    refine hr1 rfl rfl rfl (ev_pick1 rfl rfl) rfl ?_
                    refine hr1 rfl rfl rfl (ev_move rfl) rfl ?_
                    refine hsplit 115 rfl (fun h201 => ?_) (fun h201 => ?_)
                    · (try simp only [decide_eq_true_eq, beq_iff_eq, beq_eq_false_iff_ne, decide_eq_decide, decide_eq_false_iff_not, Bool.not_eq_true', Bool.not_eq_false', Bool.not_eq_true, Bool.not_eq_false, Bool.not_not, ne_eq, Option.isNone_some, Option.isSome_some, Option.isNone_none, Option.isSome_none] at h201)
                      refine hr1 rfl rfl rfl (ev_move rfl) rfl ?_
                      refine hr1 rfl rfl rfl (ev_fieldAddr 2 rfl Try.underlying73 rfl Try.sizeOf35) rfl ?_
                      refine hr1 rfl rfl rfl (ev_fieldAddr 1 rfl Try.underlying35 rfl Try.sizeOf2) rfl ?_
                      refine hr1 rfl rfl rfl (ev_load rfl Try.isAgg2 (by repeat first | exact .z | apply In.s) rfl) rfl ?_
                      refine hcall1 rfl rfl rfl (bToken) rfl Try.call23 (by repeat first | exact .nil | exact .z | apply Pk.s | apply Tk.cons) rfl ?_
                      rintro v L' ⟨rfl, rfl⟩; refine ⟨(by repeat first | exact .refl | exact .nil | exact .z | apply Pk.s | refine Ge.e ?_ | apply Ge.pick | apply Ge.drop), ?_⟩
                      refine hr1 rfl rfl rfl (ev_lss rfl rfl) rfl ?_
                      refine hr1 rfl rfl rfl (ev_pick1 rfl rfl) rfl ?_
                      refine hnil ?_
                      refine y (ev_pick0 rfl rfl) rfl ?_
                      refine hnoP' (kthn (hK27 _ _ ?_))
                      clear hK27
                      refine ccond rfl (fun h210 => ?_) (fun h210 => ?_)
                      · (try simp only [decide_eq_true_eq, beq_iff_eq, beq_eq_false_iff_ne, decide_eq_decide, decide_eq_false_iff_not, Bool.not_eq_true', Bool.not_eq_false', Bool.not_eq_true, Bool.not_eq_false, Bool.not_not, ne_eq, Option.isNone_some, Option.isSome_some, Option.isNone_none, Option.isSome_none] at h210)
                        exfalso; have := hst.up rfl (by assumption); omega
                      · (try simp only [decide_eq_true_eq, beq_iff_eq, beq_eq_false_iff_ne, decide_eq_decide, decide_eq_false_iff_not, Bool.not_eq_true', Bool.not_eq_false', Bool.not_eq_true, Bool.not_eq_false, Bool.not_not, ne_eq, Option.isNone_some, Option.isSome_some, Option.isNone_none, Option.isSome_none] at h210)
                        refine cskip' (kthn (hK26 _ _ ?_))
                        clear hK26
                        refine cseq ?_; intro K30 hK30
                        refine creg ?_
                        have hst1 := hst.mono; have hst2 := hst.up; dsimp only at hst2
                        refine y (ev_move rfl) rfl ?_
                        refine y (ev_move rfl) rfl ?_
                        refine ysplit 125 rfl (fun h213 => ?_) (fun h213 => ?_)
                        · (try simp only [decide_eq_true_eq, beq_iff_eq, beq_eq_false_iff_ne, decide_eq_decide, decide_eq_false_iff_not, Bool.not_eq_true', Bool.not_eq_false', Bool.not_eq_true, Bool.not_eq_false, Bool.not_not, ne_eq, Option.isNone_some, Option.isSome_some, Option.isNone_none, Option.isSome_none] at h213)
                          refine yg1 rfl rfl ?_
                          refine y (ev_fieldAddr 6 rfl Try.underlying35 rfl Try.sizeOf32) rfl ?_
                          refine yg1 rfl rfl ?_
                          refine y (ev_load rfl Try.isAgg32 (by repeat first | exact .z | apply In.s) rfl) rfl ?_
                          refine yg1 rfl rfl ?_
                          refine y (ev_eql rfl rfl) rfl ?_
                          refine y (ev_pick1 rfl rfl) rfl ?_
                          refine ynil' (kthn (hK30 _ _ ?_))
                          clear hK30
                          refine ccond rfl (fun h218 => ?_) (fun h218 => ?_)
                          · (try simp only [decide_eq_true_eq, beq_iff_eq, beq_eq_false_iff_ne, decide_eq_decide, decide_eq_false_iff_not, Bool.not_eq_true', Bool.not_eq_false', Bool.not_eq_true, Bool.not_eq_false, Bool.not_not, ne_eq, Option.isNone_some, Option.isSome_some, Option.isNone_none, Option.isSome_none] at h218)
                            have hFj := hF2; have hpj := hps; have htj : max S.epoch a.m.epoch ≤ S2.epoch := by have := hst2 (by first | rfl | assumption) (by assumption); omega
                            refine creg ?_
                            refine y (ev_move rfl) rfl ?_
                            refine y (ev_fieldAddr 2 rfl Try.underlying73 rfl Try.sizeOf35) rfl ?_
                            refine y (ev_fieldAddr 1 rfl Try.underlying35 rfl Try.sizeOf2) rfl ?_
                            refine y (ev_load rfl Try.isAgg2 (by repeat first | exact .z | apply In.s) rfl) rfl ?_
                            refine y (ev_max rfl rfl) rfl ?_
                            rw [show (if a.m.epoch > S.epoch then a.m.epoch else S.epoch) = max S.epoch a.m.epoch by split <;> omega]
                            refine y (ev_assign rfl) rfl ?_
                            refine ynil' (kbn (kthn ?_))
                            exact ksub (by repeat first | exact sub_nil | refine sub_cons rfl ?_ | refine sub_cons' rfl (by simp) ?_) (by repeat first | exact .refl | exact .nil | exact .z | apply Pk.s | refine Ge.e ?_ | apply Ge.pick | apply Ge.drop) (hJr37 ⟨_, _, _, _, _, _⟩ (by first | exact ⟨hFj, hpj, htj⟩))
                          · (try simp only [decide_eq_true_eq, beq_iff_eq, beq_eq_false_iff_ne, decide_eq_decide, decide_eq_false_iff_not, Bool.not_eq_true', Bool.not_eq_false', Bool.not_eq_true, Bool.not_eq_false, Bool.not_not, ne_eq, Option.isNone_some, Option.isSome_some, Option.isNone_none, Option.isSome_none] at h218)
                            have hFj := hF2; have hpj := hps; have htj : S.epoch ≤ S2.epoch := hst1
                            refine cskip' (kbn (kthn ?_))
                            exact ksub (by repeat first | exact sub_nil | refine sub_cons rfl ?_ | refine sub_cons' rfl (by simp) ?_) (by repeat first | exact .refl | exact .nil | exact .z | apply Pk.s | refine Ge.e ?_ | apply Ge.pick | apply Ge.drop) (hJr37 ⟨_, _, _, _, _, _⟩ (by first | exact ⟨hFj, hpj, htj⟩))
                        · (try simp only [decide_eq_true_eq, beq_iff_eq, beq_eq_false_iff_ne, decide_eq_decide, decide_eq_false_iff_not, Bool.not_eq_true', Bool.not_eq_false', Bool.not_eq_true, Bool.not_eq_false, Bool.not_not, ne_eq, Option.isNone_some, Option.isSome_some, Option.isNone_none, Option.isSome_none] at h213)
                          have hFj := hF2; have hpj := hps; have htj : S.epoch ≤ S2.epoch := hst1
                          refine yg0 rfl rfl rfl rfl ?_
                          refine yg0 rfl rfl rfl rfl ?_
                          refine yg0 rfl rfl rfl rfl ?_
                          refine y (ev_pick0 rfl rfl) rfl ?_
                          refine ynil' (kthn (hK30 _ _ ?_))
                          clear hK30
                          refine ccond0 rfl ?_
                          refine cskip' (kbn (kthn ?_))
                          exact ksub (by repeat first | exact sub_nil | refine sub_cons rfl ?_ | refine sub_cons' rfl (by simp) ?_) (by repeat first | exact .refl | exact .nil | exact .z | apply Pk.s | refine Ge.e ?_ | apply Ge.pick | apply Ge.drop) (hJr37 ⟨_, _, _, _, _, _⟩ (by first | exact ⟨hFj, hpj, htj⟩))
                    · (try simp only [decide_eq_true_eq, beq_iff_eq, beq_eq_false_iff_ne, decide_eq_decide, decide_eq_false_iff_not, Bool.not_eq_true', Bool.not_eq_false', Bool.not_eq_true, Bool.not_eq_false, Bool.not_not, ne_eq, Option.isNone_some, Option.isSome_some, Option.isNone_none, Option.isSome_none] at h201)
                      refine hr0 rfl rfl rfl rfl rfl ?_
                      refine hr0 rfl rfl rfl rfl rfl ?_
                      refine hr0 rfl rfl rfl rfl rfl ?_
                      refine hr0 rfl rfl rfl rfl rfl ?_
                      refine ha0 rfl rfl rfl rfl rfl (by repeat first | exact .refl | exact .nil | exact .z | apply Pk.s | refine Ge.e ?_ | apply Ge.pick | apply Ge.drop) ?_
                      refine hr0 rfl rfl rfl rfl rfl ?_
                      refine hr1 rfl rfl rfl (ev_pick0 rfl rfl) rfl ?_
                      refine hnil ?_
                      refine y (ev_pick0 rfl rfl) rfl ?_
                      refine hnoP' (kthn (hK27 _ _ ?_))
                      clear hK27
                      refine ccond0 rfl ?_
                      refine cskip' (kthn (hK26 _ _ ?_))
                      clear hK26
                      refine cseq ?_; intro K31 hK31
                      refine creg ?_
                      have hst1 := hst.mono; have hst2 := hst.up; dsimp only at hst2
                      refine y (ev_move rfl) rfl ?_
                      refine y (ev_move rfl) rfl ?_
                      refine ysplit 125 rfl (fun h230 => ?_) (fun h230 => ?_)
                      · (try simp only [decide_eq_true_eq, beq_iff_eq, beq_eq_false_iff_ne, decide_eq_decide, decide_eq_false_iff_not, Bool.not_eq_true', Bool.not_eq_false', Bool.not_eq_true, Bool.not_eq_false, Bool.not_not, ne_eq, Option.isNone_some, Option.isSome_some, Option.isNone_none, Option.isSome_none] at h230)
                        refine yg1 rfl rfl ?_
                        refine y (ev_fieldAddr 6 rfl Try.underlying35 rfl Try.sizeOf32) rfl ?_
                        refine yg1 rfl rfl ?_
                        refine y (ev_load rfl Try.isAgg32 (by repeat first | exact .z | apply In.s) rfl) rfl ?_
                        refine yg1 rfl rfl ?_
                        refine y (ev_eql rfl rfl) rfl ?_
                        refine y (ev_pick1 rfl rfl) rfl ?_
                        refine ynil' (kthn (hK31 _ _ ?_))
                        clear hK31
                        refine ccond rfl (fun h235 => ?_) (fun h235 => ?_)
                        · (try simp only [decide_eq_true_eq, beq_iff_eq, beq_eq_false_iff_ne, decide_eq_decide, decide_eq_false_iff_not, Bool.not_eq_true', Bool.not_eq_false', Bool.not_eq_true, Bool.not_eq_false, Bool.not_not, ne_eq, Option.isNone_some, Option.isSome_some, Option.isNone_none, Option.isSome_none] at h235)
                          have hFj := hF2; have hpj := hps; have htj : max S.epoch a.m.epoch ≤ S2.epoch := by have := hst2 (by first | rfl | assumption) (by assumption); omega
                          refine creg ?_
                          refine y (ev_move rfl) rfl ?_
                          refine y (ev_fieldAddr 2 rfl Try.underlying73 rfl Try.sizeOf35) rfl ?_
                          refine y (ev_fieldAddr 1 rfl Try.underlying35 rfl Try.sizeOf2) rfl ?_
                          refine y (ev_load rfl Try.isAgg2 (by repeat first | exact .z | apply In.s) rfl) rfl ?_
                          refine y (ev_max rfl rfl) rfl ?_
                          rw [show (if a.m.epoch > S.epoch then a.m.epoch else S.epoch) = max S.epoch a.m.epoch by split <;> omega]
                          refine y (ev_assign rfl) rfl ?_
                          refine ynil' (kbn (kthn ?_))
                          exact ksub (by repeat first | exact sub_nil | refine sub_cons rfl ?_ | refine sub_cons' rfl (by simp) ?_) (by repeat first | exact .refl | exact .nil | exact .z | apply Pk.s | refine Ge.e ?_ | apply Ge.pick | apply Ge.drop) (hJr37 ⟨_, _, _, _, _, _⟩ (by first | exact ⟨hFj, hpj, htj⟩))
                        · (try simp only [decide_eq_true_eq, beq_iff_eq, beq_eq_false_iff_ne, decide_eq_decide, decide_eq_false_iff_not, Bool.not_eq_true', Bool.not_eq_false', Bool.not_eq_true, Bool.not_eq_false, Bool.not_not, ne_eq, Option.isNone_some, Option.isSome_some, Option.isNone_none, Option.isSome_none] at h235)
                          have hFj := hF2; have hpj := hps; have htj : S.epoch ≤ S2.epoch := hst1
                          refine cskip' (kbn (kthn ?_))
                          exact ksub (by repeat first | exact sub_nil | refine sub_cons rfl ?_ | refine sub_cons' rfl (by simp) ?_) (by repeat first | exact .refl | exact .nil | exact .z | apply Pk.s | refine Ge.e ?_ | apply Ge.pick | apply Ge.drop) (hJr37 ⟨_, _, _, _, _, _⟩ (by first | exact ⟨hFj, hpj, htj⟩))
                      · (try simp only [decide_eq_true_eq, beq_iff_eq, beq_eq_false_iff_ne, decide_eq_decide, decide_eq_false_iff_not, Bool.not_eq_true', Bool.not_eq_false', Bool.not_eq_true, Bool.not_eq_false, Bool.not_not, ne_eq, Option.isNone_some, Option.isSome_some, Option.isNone_none, Option.isSome_none] at h230)
                        have hFj := hF2; have hpj := hps; have htj : S.epoch ≤ S2.epoch := hst1
                        refine yg0 rfl rfl rfl rfl ?_
                        refine yg0 rfl rfl rfl rfl ?_
                        refine yg0 rfl rfl rfl rfl ?_
                        refine y (ev_pick0 rfl rfl) rfl ?_
                        refine ynil' (kthn (hK31 _ _ ?_))
                        clear hK31
                        refine ccond0 rfl ?_
                        refine cskip' (kbn (kthn ?_))
                        exact ksub (by repeat first | exact sub_nil | refine sub_cons rfl ?_ | refine sub_cons' rfl (by simp) ?_) (by repeat first | exact .refl | exact .nil | exact .z | apply Pk.s | refine Ge.e ?_ | apply Ge.pick | apply Ge.drop) (hJr37 ⟨_, _, _, _, _, _⟩ (by first | exact ⟨hFj, hpj, htj⟩))
                · skip
                  refine hr rfl (ev_move rfl) rfl ?_
                  refine hr rfl (ev_move rfl) rfl ?_
                  refine hr0 rfl rfl rfl rfl rfl ?_
                  refine hr0 rfl rfl rfl rfl rfl ?_
                  refine hr0 rfl rfl rfl rfl rfl ?_
                  refine hr0 rfl rfl rfl rfl rfl ?_
                  refine hr0 rfl rfl rfl rfl rfl ?_
                  refine hr rfl (ev_pick0 rfl rfl) rfl ?_
                  refine hr rfl (ev_move rfl) rfl ?_
                  refine hr0 rfl rfl rfl rfl rfl ?_
                  refine hr0 rfl rfl rfl rfl rfl ?_
                  refine hr0 rfl rfl rfl rfl rfl ?_
                  refine hr rfl (ev_pick0 rfl rfl) rfl ?_
                  refine hr rfl (ev_move rfl) rfl ?_
                  refine hr1 rfl rfl rfl (ev_move rfl) rfl ?_
                  refine hr1 rfl rfl rfl (ev_move rfl) rfl ?_
                  refine hr0 rfl rfl rfl rfl rfl ?_
                  refine hr0 rfl rfl rfl rfl rfl ?_
                  refine hr0 rfl rfl rfl rfl rfl ?_
                  refine hr1 rfl rfl rfl (ev_pick0 rfl rfl) rfl ?_
                  refine hr1 rfl rfl rfl (ev_move rfl) rfl ?_
                  refine hr0 rfl rfl rfl rfl rfl ?_
                  refine hr0 rfl rfl rfl rfl rfl ?_
                  refine hr0 rfl rfl rfl rfl rfl ?_
                  refine hr0 rfl rfl rfl rfl rfl ?_
                  refine ha0 rfl rfl rfl rfl rfl (by repeat first | exact .refl | exact .nil | exact .z | apply Pk.s | refine Ge.e ?_ | apply Ge.pick | apply Ge.drop) ?_
                  refine hr0 rfl rfl rfl rfl rfl ?_
                  refine hr1 rfl rfl rfl (ev_pick0 rfl rfl) rfl ?_
                  refine hnil ?_
                  refine y (ev_pick0 rfl rfl) rfl ?_
                  refine hnoP' (kthn (hK27 _ _ ?_))
                  clear hK27
                  refine ccond0 rfl ?_
                  refine cskip' (kthn (hK26 _ _ ?_))
                  clear hK26
                  refine cseq ?_; intro K32 hK32
                  refine creg ?_
                  have hst1 := hst.mono; have hst2 := hst.up; dsimp only at hst2
                  refine y (ev_move rfl) rfl ?_
                  refine y (ev_move rfl) rfl ?_
                  refine ysplit 125 rfl (fun h257 => ?_) (fun h257 => ?_)
                  · (try simp only [decide_eq_true_eq, beq_iff_eq, beq_eq_false_iff_ne, decide_eq_decide, decide_eq_false_iff_not, Bool.not_eq_true', Bool.not_eq_false', Bool.not_eq_true, Bool.not_eq_false, Bool.not_not, ne_eq, Option.isNone_some, Option.isSome_some, Option.isNone_none, Option.isSome_none] at h257)
                    refine yg1 rfl rfl ?_
                    refine y (ev_fieldAddr 6 rfl Try.underlying35 rfl Try.sizeOf32) rfl ?_
                    refine yg1 rfl rfl ?_
                    refine y (ev_load rfl Try.isAgg32 (by repeat first | exact .z | apply In.s) rfl) rfl ?_
                    refine yg1 rfl rfl ?_
                    refine y (ev_eql rfl rfl) rfl ?_
                    refine y (ev_pick1 rfl rfl) rfl ?_
                    refine ynil' (kthn (hK32 _ _ ?_))
                    clear hK32
                    refine ccond rfl (fun h262 => ?_) (fun h262 => ?_)
                    · (try simp only [decide_eq_true_eq, beq_iff_eq, beq_eq_false_iff_ne, decide_eq_decide, decide_eq_false_iff_not, Bool.not_eq_true', Bool.not_eq_false', Bool.not_eq_true, Bool.not_eq_false, Bool.not_not, ne_eq, Option.isNone_some, Option.isSome_some, Option.isNone_none, Option.isSome_none] at h262)
                      have hFj := hF2; have hpj := hps; have htj : max S.epoch a.m.epoch ≤ S2.epoch := by have := hst2 (by first | rfl | assumption) (by assumption); omega
                      refine creg ?_
                      refine y (ev_move rfl) rfl ?_
                      refine y (ev_fieldAddr 2 rfl Try.underlying73 rfl Try.sizeOf35) rfl ?_
                      refine y (ev_fieldAddr 1 rfl Try.underlying35 rfl Try.sizeOf2) rfl ?_
                      refine y (ev_load rfl Try.isAgg2 (by repeat first | exact .z | apply In.s) rfl) rfl ?_
                      refine y (ev_max rfl rfl) rfl ?_
                      rw [show (if a.m.epoch > S.epoch then a.m.epoch else S.epoch) = max S.epoch a.m.epoch by split <;> omega]
                      refine y (ev_assign rfl) rfl ?_
                      refine ynil' (kbn (kthn ?_))
                      exact ksub (by repeat first | exact sub_nil | refine sub_cons rfl ?_ | refine sub_cons' rfl (by simp) ?_) (by repeat first | exact .refl | exact .nil | exact .z | apply Pk.s | refine Ge.e ?_ | apply Ge.pick | apply Ge.drop) (hJr37 ⟨_, _, _, _, _, _⟩ (by first | exact ⟨hFj, hpj, htj⟩))
                    · (try simp only [decide_eq_true_eq, beq_iff_eq, beq_eq_false_iff_ne, decide_eq_decide, decide_eq_false_iff_not, Bool.not_eq_true', Bool.not_eq_false', Bool.not_eq_true, Bool.not_eq_false, Bool.not_not, ne_eq, Option.isNone_some, Option.isSome_some, Option.isNone_none, Option.isSome_none] at h262)
                      have hFj := hF2; have hpj := hps; have htj : S.epoch ≤ S2.epoch := hst1
                      refine cskip' (kbn (kthn ?_))
                      exact ksub (by repeat first | exact sub_nil | refine sub_cons rfl ?_ | refine sub_cons' rfl (by simp) ?_) (by repeat first | exact .refl | exact .nil | exact .z | apply Pk.s | refine Ge.e ?_ | apply Ge.pick | apply Ge.drop) (hJr37 ⟨_, _, _, _, _, _⟩ (by first | exact ⟨hFj, hpj, htj⟩))
                  · (try simp only [decide_eq_true_eq, beq_iff_eq, beq_eq_false_iff_ne, decide_eq_decide, decide_eq_false_iff_not, Bool.not_eq_true', Bool.not_eq_false', Bool.not_eq_true, Bool.not_eq_false, Bool.not_not, ne_eq, Option.isNone_some, Option.isSome_some, Option.isNone_none, Option.isSome_none] at h257)
                    have hFj := hF2; have hpj := hps; have htj : S.epoch ≤ S2.epoch := hst1
                    refine yg0 rfl rfl rfl rfl ?_
                    refine yg0 rfl rfl rfl rfl ?_
                    refine yg0 rfl rfl rfl rfl ?_
                    refine y (ev_pick0 rfl rfl) rfl ?_
                    refine ynil' (kthn (hK32 _ _ ?_))
                    clear hK32
                    refine ccond0 rfl ?_
                    refine cskip' (kbn (kthn ?_))
                    exact ksub (by repeat first | exact sub_nil | refine sub_cons rfl ?_ | refine sub_cons' rfl (by simp) ?_) (by repeat first | exact .refl | exact .nil | exact .z | apply Pk.s | refine Ge.e ?_ | apply Ge.pick | apply Ge.drop) (hJr37 ⟨_, _, _, _, _, _⟩ (by first | exact ⟨hFj, hpj, htj⟩))
              clear hK25
              refine cseq ?_; intro K33 hK33
              refine creg ?_
              rcases (show S.epoch ≤ a.m.epoch ∨ (a.m.epoch < S.epoch ∧ is = false ∧ S2.getB a.m.block = S.getB a.m.block) ∨ (a.m.epoch < S.epoch ∧ is = true ∧ o.e = 24 ∧ S2.getB a.m.block = S.getB a.m.block) by by_cases hlt : a.m.epoch < S.epoch; · { obtain ⟨e1, e2⟩ := hst.elder hlt; cases is; exact .inr (.inl ⟨hlt, rfl, e2⟩); exact .inr (.inr ⟨hlt, rfl, e1 rfl, e2⟩) }; · exact .inl (by omega)) with hel | ⟨hel, rfl, hgb⟩ | ⟨hel, rfl, he24, hgb⟩ <;> try rw [hgb]
              · skip
                refine y (ev_fieldAddr 2 rfl Try.underlying73 rfl Try.sizeOf35) rfl ?_
                refine y (ev_fieldAddr 1 rfl Try.underlying35 rfl Try.sizeOf2) rfl ?_
                refine y (ev_load rfl Try.isAgg2 (by repeat first | exact .z | apply In.s) rfl) rfl ?_
                refine y (ev_move rfl) rfl ?_
                refine y (ev_lss rfl rfl) rfl ?_
                try rw [show (decide (a.m.epoch < S.epoch)) = false from decide_eq_false (by omega)]
                refine y (ev_move rfl) rfl ?_
                refine yg0 rfl rfl rfl rfl ?_
                refine yg0 rfl rfl rfl rfl ?_
                refine yg0u rfl rfl rfl ?_
                refine yg0u rfl rfl rfl ?_
                refine yg0u rfl rfl rfl ?_
                refine yg0 rfl rfl rfl rfl ?_
                refine yg0 rfl rfl rfl rfl ?_
                refine yg0u rfl rfl rfl ?_
                refine yg0u rfl rfl rfl ?_
                refine yg0u rfl rfl rfl ?_
                refine yg0 rfl rfl rfl rfl ?_
                refine yg0 rfl rfl rfl rfl ?_
                refine yg0u rfl rfl rfl ?_
                refine yg0u rfl rfl rfl ?_
                refine yg0u rfl rfl rfl ?_
                refine yg0 rfl rfl rfl rfl ?_
                refine y (ev_pick0 rfl rfl) rfl ?_
                refine ynil' (kthn (hK33 _ _ ?_))
                clear hK33
                refine ccond0 rfl ?_
                refine cskip' (kthn ?_)
                exact ksub (by repeat first | exact sub_nil | refine sub_cons rfl ?_ | refine sub_cons' rfl (by simp) ?_) (by repeat first | exact .refl | exact .nil | exact .z | apply Pk.s | refine Ge.e ?_ | apply Ge.pick | apply Ge.drop) (hJr20 () trivial)
              · skip
                refine y (ev_fieldAddr 2 rfl Try.underlying73 rfl Try.sizeOf35) rfl ?_
                refine y (ev_fieldAddr 1 rfl Try.underlying35 rfl Try.sizeOf2) rfl ?_
                refine y (ev_load rfl Try.isAgg2 (by repeat first | exact .z | apply In.s) rfl) rfl ?_
                refine y (ev_move rfl) rfl ?_
                refine y (ev_lss rfl rfl) rfl ?_
                try rw [show (decide (a.m.epoch < S.epoch)) = false from decide_eq_false (by omega)]
                refine y (ev_move rfl) rfl ?_
                refine ysplit 77 rfl (fun h283 => ?_) (fun h283 => ?_)
                · (try simp only [decide_eq_true_eq, beq_iff_eq, beq_eq_false_iff_ne, decide_eq_decide, decide_eq_false_iff_not, Bool.not_eq_true', Bool.not_eq_false', Bool.not_eq_true, Bool.not_eq_false, Bool.not_not, ne_eq, Option.isNone_some, Option.isSome_some, Option.isNone_none, Option.isSome_none] at h283)
                  refine yg1 rfl rfl ?_
                  refine y (ev_move rfl) rfl ?_
                  refine yg1 rfl rfl ?_
                  refine y (ev_move rfl) rfl ?_
                  refine yg0 rfl rfl rfl rfl ?_
                  refine yg0 rfl rfl rfl rfl ?_
                  refine yg0 rfl rfl rfl rfl ?_
                  refine yg1 rfl rfl ?_
                  refine y (ev_pick0 rfl rfl) rfl ?_
                  refine yg1 rfl rfl ?_
                  refine y (ev_move rfl) rfl ?_
                  refine yg1 rfl rfl ?_
                  refine y (ev_loadAll rfl Try.isAgg50 Try.sizeOf50 (by repeat first | exact .z | apply In.s) (by first | rfl | assumption | (simp [*]; done) | (simp [*]; omega))) rfl ?_
                  refine yg1 rfl rfl ?_
                  refine y (ev_loadAll rfl Try.isAgg50 Try.sizeOf50 (by repeat first | exact .z | apply In.s) (by first | rfl | assumption | (simp [*]; done) | (simp [*]; omega))) rfl ?_
                  refine yg1 rfl rfl ?_
                  refine y (ev_neqF rfl rfl (by kernel_rfl) (by simp only [List.cons.injEq, Value.int.injEq, Value.string.injEq, Value.bool.injEq, str_inj, intsV_inj, MsgM.cells_inj, true_and, and_true]; exact Iff.rfl)) rfl ?_
                  refine yg1 rfl rfl ?_
                  refine y (ev_pick0 rfl rfl) rfl ?_
                  refine yg1 rfl rfl ?_
                  refine y (ev_move rfl) rfl ?_
                  refine yg1 rfl rfl ?_
                  refine y (ev_move rfl) rfl ?_
                  refine yg1 rfl rfl ?_
                  refine y (ev_move rfl) rfl ?_
                  refine yg1 rfl rfl ?_
                  first
                    | refine y (ev_neqL rfl rfl) rfl ?_
                    | refine y (ev_neqS rfl rfl) rfl ?_
                  rw [show (decide ((S.getB a.m.block).data ≠ (S.getB a.m.block).data)) = false by simp]
                  refine yg1 rfl rfl ?_
                  refine y (ev_pick0 rfl rfl) rfl ?_
                  refine y (ev_pick1 rfl rfl) rfl ?_
                  refine ynil' (kthn (hK33 _ _ ?_))
                  clear hK33
                  refine ccond0 rfl ?_
                  refine cskip' (kthn ?_)
                  exact ksub (by repeat first | exact sub_nil | refine sub_cons rfl ?_ | refine sub_cons' rfl (by simp) ?_) (by repeat first | exact .refl | exact .nil | exact .z | apply Pk.s | refine Ge.e ?_ | apply Ge.pick | apply Ge.drop) (hJr20 () trivial)
                · (try simp only [decide_eq_true_eq, beq_iff_eq, beq_eq_false_iff_ne, decide_eq_decide, decide_eq_false_iff_not, Bool.not_eq_true', Bool.not_eq_false', Bool.not_eq_true, Bool.not_eq_false, Bool.not_not, ne_eq, Option.isNone_some, Option.isSome_some, Option.isNone_none, Option.isSome_none] at h283)
                  refine yg0 rfl rfl rfl rfl ?_
                  refine yg0 rfl rfl rfl rfl ?_
                  refine yg0u rfl rfl rfl ?_
                  refine yg0u rfl rfl rfl ?_
                  refine yg0u rfl rfl rfl ?_
                  refine yg0 rfl rfl rfl rfl ?_
                  refine yg0 rfl rfl rfl rfl ?_
                  refine yg0u rfl rfl rfl ?_
                  refine yg0u rfl rfl rfl ?_
                  refine yg0u rfl rfl rfl ?_
                  refine yg0 rfl rfl rfl rfl ?_
                  refine yg0 rfl rfl rfl rfl ?_
                  refine yg0u rfl rfl rfl ?_
                  refine yg0u rfl rfl rfl ?_
                  refine yg0u rfl rfl rfl ?_
                  refine yg0 rfl rfl rfl rfl ?_
                  refine y (ev_pick0 rfl rfl) rfl ?_
                  refine ynil' (kthn (hK33 _ _ ?_))
                  clear hK33
                  refine ccond0 rfl ?_
                  refine cskip' (kthn ?_)
                  exact ksub (by repeat first | exact sub_nil | refine sub_cons rfl ?_ | refine sub_cons' rfl (by simp) ?_) (by repeat first | exact .refl | exact .nil | exact .z | apply Pk.s | refine Ge.e ?_ | apply Ge.pick | apply Ge.drop) (hJr20 () trivial)
              · skip
                refine y (ev_fieldAddr 2 rfl Try.underlying73 rfl Try.sizeOf35) rfl ?_
                refine y (ev_fieldAddr 1 rfl Try.underlying35 rfl Try.sizeOf2) rfl ?_
                refine y (ev_load rfl Try.isAgg2 (by repeat first | exact .z | apply In.s) rfl) rfl ?_
                refine y (ev_move rfl) rfl ?_
                refine y (ev_lss rfl rfl) rfl ?_
                try rw [show (decide (a.m.epoch < S.epoch)) = false from decide_eq_false (by omega)]
                refine y (ev_move rfl) rfl ?_
                refine ysplit 77 rfl (fun h305 => ?_) (fun h305 => ?_)
                · (try simp only [decide_eq_true_eq, beq_iff_eq, beq_eq_false_iff_ne, decide_eq_decide, decide_eq_false_iff_not, Bool.not_eq_true', Bool.not_eq_false', Bool.not_eq_true, Bool.not_eq_false, Bool.not_not, ne_eq, Option.isNone_some, Option.isSome_some, Option.isNone_none, Option.isSome_none] at h305)
                  refine yg1 rfl rfl ?_
                  refine y (ev_move rfl) rfl ?_
                  refine yg1 rfl rfl ?_
                  refine y (ev_move rfl) rfl ?_
                  refine yg1 rfl rfl ?_
                  refine y (ev_fieldAddr 6 rfl Try.underlying35 rfl Try.sizeOf32) rfl ?_
                  refine yg1 rfl rfl ?_
                  refine y (ev_load rfl Try.isAgg32 (by repeat first | exact .z | apply In.s) rfl) rfl ?_
                  refine yg1 rfl rfl ?_
                  refine y (ev_neq rfl rfl) rfl ?_
                  try rw [he24, show (!decide ((24 : Int) = 24)) = false by simp]
                  refine yg1 rfl rfl ?_
                  refine y (ev_pick1 rfl rfl) rfl ?_
                  refine yg1 rfl rfl ?_
                  refine y (ev_move rfl) rfl ?_
                  refine yg1 rfl rfl ?_
                  refine y (ev_loadAll rfl Try.isAgg50 Try.sizeOf50 (by repeat first | exact .z | apply In.s) (by first | rfl | assumption | (simp [*]; done) | (simp [*]; omega))) rfl ?_
                  refine yg1 rfl rfl ?_
                  refine y (ev_loadAll rfl Try.isAgg50 Try.sizeOf50 (by repeat first | exact .z | apply In.s) (by first | rfl | assumption | (simp [*]; done) | (simp [*]; omega))) rfl ?_
                  refine yg1 rfl rfl ?_
                  refine y (ev_neqF rfl rfl (by kernel_rfl) (by simp only [List.cons.injEq, Value.int.injEq, Value.string.injEq, Value.bool.injEq, str_inj, intsV_inj, MsgM.cells_inj, true_and, and_true]; exact Iff.rfl)) rfl ?_
                  refine yg1 rfl rfl ?_
                  refine y (ev_pick0 rfl rfl) rfl ?_
                  refine yg1 rfl rfl ?_
                  refine y (ev_move rfl) rfl ?_
                  refine yg1 rfl rfl ?_
                  refine y (ev_move rfl) rfl ?_
                  refine yg1 rfl rfl ?_
                  refine y (ev_move rfl) rfl ?_
                  refine yg1 rfl rfl ?_
                  first
                    | refine y (ev_neqL rfl rfl) rfl ?_
                    | refine y (ev_neqS rfl rfl) rfl ?_
                  rw [show (decide ((S.getB a.m.block).data ≠ (S.getB a.m.block).data)) = false by simp]
                  refine yg1 rfl rfl ?_
                  refine y (ev_pick0 rfl rfl) rfl ?_
                  refine y (ev_pick1 rfl rfl) rfl ?_
                  refine ynil' (kthn (hK33 _ _ ?_))
                  clear hK33
                  refine ccond0 rfl ?_
                  refine cskip' (kthn ?_)
                  exact ksub (by repeat first | exact sub_nil | refine sub_cons rfl ?_ | refine sub_cons' rfl (by simp) ?_) (by repeat first | exact .refl | exact .nil | exact .z | apply Pk.s | refine Ge.e ?_ | apply Ge.pick | apply Ge.drop) (hJr20 () trivial)
                · (try simp only [decide_eq_true_eq, beq_iff_eq, beq_eq_false_iff_ne, decide_eq_decide, decide_eq_false_iff_not, Bool.not_eq_true', Bool.not_eq_false', Bool.not_eq_true, Bool.not_eq_false, Bool.not_not, ne_eq, Option.isNone_some, Option.isSome_some, Option.isNone_none, Option.isSome_none] at h305)
                  refine yg0 rfl rfl rfl rfl ?_
                  refine yg0 rfl rfl rfl rfl ?_
                  refine yg0u rfl rfl rfl ?_
                  refine yg0u rfl rfl rfl ?_
                  refine yg0u rfl rfl rfl ?_
                  refine yg0 rfl rfl rfl rfl ?_
                  refine yg0 rfl rfl rfl rfl ?_
                  refine yg0u rfl rfl rfl ?_
                  refine yg0u rfl rfl rfl ?_
                  refine yg0u rfl rfl rfl ?_
                  refine yg0 rfl rfl rfl rfl ?_
                  refine yg0 rfl rfl rfl rfl ?_
                  refine yg0u rfl rfl rfl ?_
                  refine yg0u rfl rfl rfl ?_
                  refine yg0u rfl rfl rfl ?_
                  refine yg0 rfl rfl rfl rfl ?_
                  refine y (ev_pick0 rfl rfl) rfl ?_
                  refine ynil' (kthn (hK33 _ _ ?_))
                  clear hK33
                  refine ccond0 rfl ?_
                  refine cskip' (kthn ?_)
                  exact ksub (by repeat first | exact sub_nil | refine sub_cons rfl ?_ | refine sub_cons' rfl (by simp) ?_) (by repeat first | exact .refl | exact .nil | exact .z | apply Pk.s | refine Ge.e ?_ | apply Ge.pick | apply Ge.drop) (hJr20 () trivial)
            · (try simp only [decide_eq_true_eq, beq_iff_eq, beq_eq_false_iff_ne, decide_eq_decide, decide_eq_false_iff_not, Bool.not_eq_true', Bool.not_eq_false', Bool.not_eq_true, Bool.not_eq_false, Bool.not_not, ne_eq, Option.isNone_some, Option.isSome_some, Option.isNone_none, Option.isSome_none] at h94)
              refine cseq ?_; intro K34 hK34
              refine creg ?_
              refine y (ev_eql rfl rfl) rfl ?_
              refine y (ev_assign rfl) rfl ?_
              refine ynil' (kthn (hK34 _ _ ?_))
              clear hK34
              refine ccond rfl (fun h326 => ?_) (fun h326 => ?_)
              · (try simp only [decide_eq_true_eq, beq_iff_eq, beq_eq_false_iff_ne, decide_eq_decide, decide_eq_false_iff_not, Bool.not_eq_true', Bool.not_eq_false', Bool.not_eq_true, Bool.not_eq_false, Bool.not_not, ne_eq, Option.isNone_some, Option.isSome_some, Option.isNone_none, Option.isSome_none] at h326)
                refine cseq ?_; intro K35 hK35
                refine creg ?_
                refine ya (ac_bslice0 Try.underlying62 Try.sizeOf76) rfl ?_
                rintro v L' ⟨b137, rfl, rfl⟩
                refine y (ev_fieldAddr 16 rfl Try.underlying73 rfl Try.sizeOf62) rfl ?_
                refine y (ev_load rfl Try.isAgg62 (by repeat first | exact .z | apply In.s) rfl) rfl ?_
                refine ya (ac_append (s := some (b137, 0, [])) (xs := []) (m := 0) (k := a.ks.length) (us := keepsV a.ks) (size := 2) rfl rfl (by repeat first | exact .z | apply Pk.s) Try.underlying62 Try.underlying62 (by intro q hq; cases hq) Try.typeInfo76 rfl rfl rfl ?ok330 ?src330 ?one330 ?big330) rfl ?_
                case ok330 => exact ⟨by decide, by decide, rfl, rfl⟩
                case src330 => exact (hkk.mono (by repeat first | exact .refl | exact .nil | exact .z | apply Pk.s | refine Ge.e ?_ | apply Ge.pick | apply Ge.drop)).src (keepsV_len2 _)
                case one330 => exact keepsV_one _
                case big330 => show (_ + _) * 17 ≤ _; omega
                rintro v L' ⟨s140, rfl, ok140, rfl⟩
                rw [Nat.zero_add, List.nil_append] at ok140 ⊢
                refine y (ev_assign rfl) rfl ?_
                refine ynil' (kthn (hK35 _ _ ?_))
                clear hK35
                refine cseq ?_; intro K36 hK36
                refine cseq ?_; intro K37 hK37
                refine creg ?_
                refine y (ev_move rfl) rfl ?_
                first
                  | refine y (ev_len rfl Try.underlying62) rfl ?_
                  | refine y (ev_lenSv rfl Try.underlying62 (by assumption)) rfl ?_
                  | refine y (ev_lenV rfl Try.underlying62 (RdV.lenVal (by assumption))) rfl ?_
                  | refine y (ev_lenV rfl Try.underlying62 (RdB.lenVal (by assumption))) rfl ?_
                refine y (ev_move rfl) rfl ?_
                refine ynil' (kthn (hK37 _ _ ?_))
                clear hK37
                have hJ2 : ∀ z : Nat, ((z ≤ a.ks.length) ∧ (z = a.ks.length)) → Sk 178 K36 ([(143, i64 z), (142, i64 a.ks.length), (17, svVal s140 a.ks.length), (9, i64 i), (8, i64 S.epoch), (5, dp q23), (6, ptr s), (7, i64 n), (1, lv)]) ([svSeg s140 76 (keepsV (maskN a.ks z)), stoP s t ps S, celP t q23 S.tok, celsP ps q23 S.cs, dev q23 D] ++ R) := by
                  rintro k ⟨hI2, hX2⟩
                  refine hK36 _ _ ?_
                  have hkI := hI2
                  have hk1 := hX2; subst hk1; rw [maskN_all]
                  refine cseq ?_; intro K38 hK38
                  refine creg ?_
                  refine y (ev_move rfl) rfl ?_
                  refine y (ev_move rfl) rfl ?_
                  refine ycall (secCrash (ks := maskK a.ks) ?ok337 ?ks337) rfl Try.call35 (by repeat first | exact .nil | exact .z | apply Pk.s | apply Tk.cons) rfl ?_
                  case ok337 => exact hok.d
                  case ks337 => rw [maskK_len]; exact rdV_sv (by repeat first | exact .z | apply In.s) (svOk_same ok140 (by rw [keepsV_len2, keepsV_len2, maskK_len]))
                  rintro v L' ⟨rfl, rfl⟩
                  obtain ⟨hLc, hGc, hEc⟩ := hF.crash (by omega) (maskK_no2 a.ks)
                  refine ynil' (kthn (hK38 _ _ ?_))
                  clear hK38
                  refine cseq ?_; intro K39 hK39
                  refine creg ?_
                  refine y (ev_move rfl) rfl ?_
                  refine y (ev_move rfl) rfl ?_
                  refine ycall (gOpen (n := n) rfl n1 n32 hLc) rfl Try.call27 (by repeat first | exact .nil | exact .z | apply Pk.s | apply Tk.cons) rfl ?_
                  rintro v L' ⟨s2, t2, ps2, hps2, rfl, rfl⟩
                  have hFj : FenI (openS (D.crash (maskK a.ks)) 0 n) (D.crash (maskK a.ks)) n (i + 1) := .live hLc rfl hGc
                  have hpj := hps2; have htj := hEc
                  refine y (ev_move rfl) rfl ?_
                  refine y (ev_extract rfl rfl) rfl ?_
                  refine y (ev_extract rfl rfl) rfl ?_
                  refine y (ev_assign rfl) rfl ?_
                  refine ynil' (kthn (hK39 _ _ ?_))
                  clear hK39
                  refine cseq ?_; intro K40 hK40
                  refine creg ?_
                  refine y (ev_move rfl) rfl ?_
                  skip
                  · skip
                    refine y (ev_eqlPnil rfl rfl Try.underlying42) rfl ?_
                    refine ynil' (kthn (hK40 _ _ ?_))
                    clear hK40
                    refine ccond0 rfl ?_
                    refine cskip' (kbn (kthn ?_))
                    exact ksub (by repeat first | exact sub_nil | refine sub_cons rfl ?_ | refine sub_cons' rfl (by simp) ?_) (by repeat first | exact .refl | exact .nil | exact .z | apply Pk.s | refine Ge.e ?_ | apply Ge.pick | apply Ge.drop) (hJr37 ⟨_, _, _, _, _, _⟩ (by first | exact ⟨hFj, hpj, htj⟩))
                clear hK36
                refine cblock ?_
                refine cloop (A := Nat) (fun z => [(143, i64 z), (142, i64 a.ks.length), (17, svVal s140 a.ks.length), (9, i64 i), (8, i64 S.epoch), (5, dp q23), (6, ptr s), (7, i64 n), (1, lv)]) (fun z => [svSeg s140 76 (keepsV (maskN a.ks z)), stoP s t ps S, celP t q23 S.tok, celsP ps q23 S.cs, dev q23 D] ++ R) (fun z => z ≤ a.ks.length) (fun z => a.ks.length - z) (0) ?_ (by repeat first | exact sub_nil | refine sub_cons rfl ?_ | refine sub_cons' rfl (by simp) ?_) (by repeat first | exact .refl | exact .nil | exact .z | apply Pk.s | refine Ge.e ?_ | apply Ge.pick | apply Ge.drop) ?_
                · exact Nat.zero_le _
                rintro k hI2 KL2 hL2
                have hI2o := hI2
                have hkI := hI2
                refine cseq ?_; intro K41 hK41
                refine creg ?_
                refine y (ev_lss rfl rfl) rfl ?_
                refine ynil' (kthn (hK41 _ _ ?_))
                clear hK41
                refine cseq ?_; intro K42 hK42
                refine ccond rfl (fun h348 => ?_) (fun h348 => ?_)
                · (try simp only [decide_eq_true_eq, beq_iff_eq, beq_eq_false_iff_ne, decide_eq_decide, decide_eq_false_iff_not, Bool.not_eq_true', Bool.not_eq_false', Bool.not_eq_true, Bool.not_eq_false, Bool.not_not, ne_eq, Option.isNone_some, Option.isSome_some, Option.isNone_none, Option.isSome_none] at h348)
                  refine cskip' (kthn (hK42 _ _ ?_))
                  clear hK42
                  refine cseq ?_; intro K43 hK43
                  refine cblock ?_
                  refine cseq ?_; intro K44 hK44
                  refine creg ?_
                  refine y (ev_move rfl) rfl ?_
                  refine y (ev_assign rfl) rfl ?_
                  refine ynil' (kthn (hK44 _ _ ?_))
                  clear hK44
                  refine creg ?_
                  obtain ⟨y0, hy0⟩ : ∃ y, a.ks[k]? = some y := ⟨_, List.getElem?_eq_getElem (by omega)⟩
                  rcases s140 with _ | ⟨bk, ck, sk⟩
                  · exact absurd ok140.1 (by omega)
                  have hset : (keepsV (maskN a.ks k) ++ sk).set (k * 2) (i64 (bAnd .i64 y0.1 1)) = keepsV (maskN a.ks (k + 1)) ++ sk := by rw [List.set_append_left _ _ (by rw [keepsV_len2, maskN_len]; omega), keepsV_set (maskN_get hy0), maskN_set hy0]
                  have hget : (keepsV (maskN a.ks k) ++ sk)[k * 2]? = some (i64 y0.1) := by rw [List.getElem?_append_left (by rw [keepsV_len2, maskN_len]; omega)]; exact keepsV_get0 (maskN_get hy0)
                  refine y (ev_move rfl) rfl ?_
                  refine y (ev_move rfl) rfl ?_
                  refine y (ev_ixAddr rfl rfl Try.underlying62 Try.sizeOf76 (by omega) (by omega)) rfl ?_
                  refine y (ev_fieldAddr 0 rfl Try.underlying76 rfl Try.sizeOf3) rfl ?_
                  refine y (ev_load rfl Try.isAgg3 (by repeat first | exact .z | apply In.s) (by simpa using hget)) rfl ?_
                  refine y (ev_and rfl rfl) rfl ?_
                  refine y (ev_ixAddr rfl rfl Try.underlying62 Try.sizeOf76 (by omega) (by omega)) rfl ?_
                  refine y (ev_fieldAddr 0 rfl Try.underlying76 rfl Try.sizeOf3) rfl ?_
                  refine ya0 (ac_store rfl rfl rfl Try.sizeOf3 (by repeat first | exact .z | apply Rp.s) (by simp [keepsV_len2, maskN_len]; omega) (by simpa using hset)) ?_
                  rintro v L' ⟨rfl, rfl⟩
                  refine ynil' (kbn (kthn (hK43 _ _ ?_)))
                  clear hK43
                  refine creg ?_
                  refine y (ev_add rfl rfl) rfl ?_
                  rw [show IntKind.i64.wrap ((k:Int) + 1) = ((k+1 : Nat) : Int) by rw [wr (by omega) (by omega)]; rfl]
                  refine y (ev_move rfl) rfl ?_
                  refine ynil' (kthn ?_)
                  exact hL2 (k + 1) (by omega) (by omega) _ _ (by repeat first | exact sub_nil | refine sub_cons rfl ?_ | refine sub_cons' rfl (by simp) ?_) (by repeat first | exact .refl | exact .nil | exact .z | apply Pk.s | refine Ge.e ?_ | apply Ge.pick | apply Ge.drop)
                · (try simp only [decide_eq_true_eq, beq_iff_eq, beq_eq_false_iff_ne, decide_eq_decide, decide_eq_false_iff_not, Bool.not_eq_true', Bool.not_eq_false', Bool.not_eq_true, Bool.not_eq_false, Bool.not_not, ne_eq, Option.isNone_some, Option.isSome_some, Option.isNone_none, Option.isSome_none] at h348)
                  refine cexit (kthx (kthx (kbx (kthn ?_))))
                  exact ksub (by repeat first | exact sub_nil | refine sub_cons rfl ?_ | refine sub_cons' rfl (by simp) ?_) (by repeat first | exact .refl | exact .nil | exact .z | apply Pk.s | refine Ge.e ?_ | apply Ge.pick | apply Ge.drop) (hJ2 k ⟨hI2o, by first | trivial | omega⟩)
              · (try simp only [decide_eq_true_eq, beq_iff_eq, beq_eq_false_iff_ne, decide_eq_decide, decide_eq_false_iff_not, Bool.not_eq_true', Bool.not_eq_false', Bool.not_eq_true, Bool.not_eq_false, Bool.not_not, ne_eq, Option.isNone_some, Option.isSome_some, Option.isNone_none, Option.isSome_none] at h326)
                refine cseq ?_; intro K45 hK45
                refine creg ?_
                refine y (ev_eql rfl rfl) rfl ?_
                refine y (ev_assign rfl) rfl ?_
                refine ynil' (kthn (hK45 _ _ ?_))
                clear hK45
                refine ccond rfl (fun h364 => ?_) (fun h364 => ?_)
                · (try simp only [decide_eq_true_eq, beq_iff_eq, beq_eq_false_iff_ne, decide_eq_decide, decide_eq_false_iff_not, Bool.not_eq_true', Bool.not_eq_false', Bool.not_eq_true, Bool.not_eq_false, Bool.not_not, ne_eq, Option.isNone_some, Option.isSome_some, Option.isNone_none, Option.isSome_none] at h364)
                  refine creg ?_
                  refine y (ev_move rfl) rfl ?_
                  refine y (ev_fieldAddr 1 rfl Try.underlying73 rfl Try.sizeOf3) rfl ?_
                  refine y (ev_load rfl Try.isAgg3 (by repeat first | exact .z | apply In.s) rfl) rfl ?_
                  refine ycall (secFuse) rfl Try.call36 (by repeat first | exact .nil | exact .z | apply Pk.s | apply Tk.cons) rfl ?_
                  rintro v L' ⟨rfl, rfl⟩
                  have hFj := (hF.fuse hxn.2).up1; have hpj := hps; have htj : S.epoch ≤ S.epoch := Int.le_refl _
                  refine ynil' (kbn (kthn ?_))
                  exact ksub (by repeat first | exact sub_nil | refine sub_cons rfl ?_ | refine sub_cons' rfl (by simp) ?_) (by repeat first | exact .refl | exact .nil | exact .z | apply Pk.s | refine Ge.e ?_ | apply Ge.pick | apply Ge.drop) (hJr37 ⟨_, _, _, _, _, _⟩ (by first | exact ⟨hFj, hpj, htj⟩))
                · (try simp only [decide_eq_true_eq, beq_iff_eq, beq_eq_false_iff_ne, decide_eq_decide, decide_eq_false_iff_not, Bool.not_eq_true', Bool.not_eq_false', Bool.not_eq_true, Bool.not_eq_false, Bool.not_not, ne_eq, Option.isNone_some, Option.isSome_some, Option.isNone_none, Option.isSome_none] at h364)
                  have hFj := hF.up1; have hpj := hps; have htj : S.epoch ≤ S.epoch := Int.le_refl _
                  refine cskip' (kbn (kthn ?_))
                  exact ksub (by repeat first | exact sub_nil | refine sub_cons rfl ?_ | refine sub_cons' rfl (by simp) ?_) (by repeat first | exact .refl | exact .nil | exact .z | apply Pk.s | refine Ge.e ?_ | apply Ge.pick | apply Ge.drop) (hJr37 ⟨_, _, _, _, _, _⟩ (by first | exact ⟨hFj, hpj, htj⟩))
        · (try simp only [decide_eq_true_eq, beq_iff_eq, beq_eq_false_iff_ne, decide_eq_decide, decide_eq_false_iff_not, Bool.not_eq_true', Bool.not_eq_false', Bool.not_eq_true, Bool.not_eq_false, Bool.not_not, ne_eq, Option.isNone_some, Option.isSome_some, Option.isNone_none, Option.isSome_none] at h68)
          refine cexit (kthx (kthx (kbx (kthn (hK8 _ _ ?_)))))
          clear hK8
          refine cseq ?_; intro K46 hK46
          refine creg ?_
          refine y (ev_assign rfl) rfl ?_
          refine ynil' (kthn (hK46 _ _ ?_))
          clear hK46
          refine cret ?_
          first
            | (exfalso; omega; done)
            | (refine kretv Try.results12 rfl (L1 := R) (by repeat first | exact .refl | exact .nil | exact .z | apply Pk.s | refine Ge.e ?_ | apply Ge.pick | apply Ge.drop) ?_
               exact ⟨_, ⟨by first | rfl | (exfalso; simp_all; done), rfl⟩, by first | rfl | (exfalso; simp_all; done)⟩)
      · (try simp only [decide_eq_true_eq, beq_iff_eq, beq_eq_false_iff_ne, decide_eq_decide, decide_eq_false_iff_not, Bool.not_eq_true', Bool.not_eq_false', Bool.not_eq_true, Bool.not_eq_false, Bool.not_not, ne_eq, Option.isNone_some, Option.isSome_some, Option.isNone_none, Option.isSome_none] at h64)
        refine yg0 rfl rfl rfl rfl ?_
        refine yg0 rfl rfl rfl rfl ?_
        refine y (ev_pick0 rfl rfl) rfl ?_
        refine ynil' (kthn (hK11 _ _ ?_))
        clear hK11
        refine ccond0 rfl ?_
        refine cexit (kthx (kthx (kbx (kthn (hK8 _ _ ?_)))))
        clear hK8
        refine cseq ?_; intro K47 hK47
        refine creg ?_
        refine y (ev_assign rfl) rfl ?_
        refine ynil' (kthn (hK47 _ _ ?_))
        clear hK47
        refine cret ?_
        first
          | (exfalso; omega; done)
          | (refine kretv Try.results12 rfl (L1 := R) (by repeat first | exact .refl | exact .nil | exact .z | apply Pk.s | refine Ge.e ?_ | apply Ge.pick | apply Ge.drop) ?_
             exact ⟨_, ⟨by first | rfl | (exfalso; simp_all; done), rfl⟩, by first | rfl | (exfalso; simp_all; done)⟩)
end W
end Go.Proofs
