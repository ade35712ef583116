/- A part of the proof: contracts and plain lemmas, each without conditions beyond those that it names. -/
import Derived.Test.YtediodfmkbfomaaGreatC17
set_option linter.unusedVariables false
set_option linter.unusedSimpArgs false
set_option linter.constructorNameAsVariable false
namespace Go.Proofs
open Go Go.Sl
namespace W
set_option linter.unusedVariables false
theorem t4_ext {a b : T4} (h : a.a = b.a) (h2 : a.b = b.b) (h3 : a.c = b.c) (h4 : a.d = b.d) : a = b := by cases a; cases b; simp_all
theorem note_zero {k : KeptM} (hk : k.ok) : noteK k 0 0 (t4Of [0, 0, 0, 0]) = k := by
  obtain ⟨⟨a1, -⟩, ⟨b1, -⟩, ⟨c1, -⟩, ⟨d1, -⟩, ⟨e1, -⟩, ⟨f1, -⟩⟩ := hk
  have h : aboveV 0 0 k.e k.s = false := by unfold aboveV; simp; omega
  unfold noteK
  rw [h]
  obtain ⟨ke, ks, kt⟩ := k
  dsimp only at *
  rw [if_neg (by simp), if_neg (by simp)]
  have : kt.max (t4Of [0, 0, 0, 0]) = kt := t4_ext (Int.max_eq_left c1) (Int.max_eq_left d1) (Int.max_eq_left e1) (Int.max_eq_left f1)
  rw [this]
theorem lawCReset [Env] {R : List Seg} {bv ve vs : Int} {lv nv : Value} {acts : List ActC} {ns : List Int} (hb : 0 ≤ bv ∧ bv ≤ 255) (hl : RdV R lv acts.length (actcsV acts)) (haa : ∀ a ∈ acts, a.ok R) (hnv : RdV R nv ns.length (intsV ns)) (hnm : ns.length ≤ maxLen) :
    Con Tryz.prog 9 [.int .u8 bv, lv, .agg #[iV ve, iV vs], nv] [] R (Is (.bool true) []) := by
  have hvl := hl.lenVal
  have hnl := hnv.lenVal
  refine con_enter Tryz.func9 Tryz.ntmps9 rfl rfl ?_
  refine cseq ?_; intro K1 hK1
  refine creg ?_
  refine ya (ac_box (vs := [i64 ve, i64 vs]) rfl rfl) rfl ?_
  rintro v L' ⟨b6, rfl, rfl⟩
  refine y (ev_assign rfl) rfl ?_
  refine ynil' (kthn (hK1 _ _ ?_))
  clear hK1
  refine cseq ?_; intro K2 hK2
  refine cseq ?_; intro K3 hK3
  refine creg ?_
  refine ycall (awake9) rfl Tryz.call11 (by repeat first | exact .nil | exact .z | apply Pk.s | apply Tk.cons) rfl ?_
  rintro v L' ⟨rfl, rfl⟩
  skip
  ·skip
   refine y (ev_not rfl) rfl ?_
   refine ynil' (kthn (hK3 _ _ ?_))
   clear hK3
   refine ccond0 rfl ?_
   refine cskip' (kthn (hK2 _ _ ?_))
   clear hK2
   refine cseq ?_; intro K4 hK4
   refine creg ?_
   refine y (ev_move rfl) rfl ?_
   refine ycall (nOpen9 ?ra6 ?rb6) rfl Tryz.call12 (by repeat first | exact .nil | exact .z | apply Pk.s | apply Tk.cons) rfl ?_
   case ra6 => exact hb.1
   case rb6 => exact hb.2
   rintro v L' ⟨q21, A21, sl21, C21, D21, rfl, hS21, hv21, ok21, rfl⟩
   obtain ⟨n8, n37⟩ := nCa_le bv
   generalize nCa bv = n at *
   generalize C21 = C0 at *
   generalize D21 = D0 at *
   refine y (ev_move rfl) rfl ?_
   refine y (ev_extract rfl rfl) rfl ?_
   refine y (ev_extract rfl rfl) rfl ?_
   refine y (ev_extract rfl rfl) rfl ?_
   refine y (ev_assign rfl) rfl ?_
   refine y (ev_assign rfl) rfl ?_
   refine y (ev_assign rfl) rfl ?_
   refine ynil' (kthn (hK4 _ _ ?_))
   clear hK4
   refine cseq ?_; intro K5 hK5
   refine cseq ?_; intro K6 hK6
   refine creg ?_
   refine y (ev_move rfl) rfl ?_
   skip
   ·skip
    refine y (ev_eqlPnil rfl rfl Tryz.underlying26) rfl ?_
    refine y (ev_move rfl) rfl ?_
    refine yg1 rfl rfl ?_
    refine y (ev_move rfl) rfl ?_
    refine yg1 rfl rfl ?_
    refine y (ev_lenV rfl Tryz.underlying56 hnl) rfl ?_
    refine yg1 rfl rfl ?_
    refine y (ev_gtr rfl rfl) rfl ?_
    refine y (ev_pick0 rfl rfl) rfl ?_
    refine ynil' (kthn (hK6 _ _ ?_))
    clear hK6
    refine ccond rfl (fun h21 => ?_) (fun h21 => ?_)
    ·(try simp only [sH] at h21)
     refine cseq ?_; intro K7 hK7
     refine creg ?_
     refine y (ev_move rfl) rfl ?_
     refine y (ev_neqPnil rfl rfl Tryz.underlying26) rfl ?_
     refine y (ev_assign rfl) rfl ?_
     refine ynil' (kthn (hK7 _ _ ?_))
     clear hK7
     refine cret (kthr ?_)
     first
       | (exfalso; omega; done)
       | (refine kretv Tryz.results9 rfl (L1 := R) (by repeat first | exact .refl | exact .nil | exact .z | apply Pk.s | refine Ge.e ?_ | apply Ge.pick | apply Ge.drop) ?_
          exact ⟨[], ⟨rfl, rfl⟩, rfl⟩)
    ·(try simp only [sH] at h21)
     have hn100 : ns.length ≤ 100 := by omega
     refine cskip' (kthn (hK5 _ _ ?_))
     clear hK5
     refine cseq ?_; intro K8 hK8
     refine cseq ?_; intro K9 hK9
     refine creg ?_
     refine y (ev_assign rfl) rfl ?_
     refine ynil' (kthn (hK9 _ _ ?_))
     clear hK9
     have hJ1 : ∀ x : Nat × CaM × Dev × Sv, ((CaS 32 n (200 * x.1 + 1) x.2.1 x.2.2.1 ∧ itOk x.2.2.2 x.2.1.l ∧ x.1 ≤ acts.length ∧ x.1 ≤ 60) ∧ (True)) → Sk 106 K8 ([(12, i64 x.1), (10, ptr A21.p), (6, ptr b6), (1, lv), (3, nv)]) ([sc b6 [i64 ve, i64 vs] 31, caP A21 x.2.1, enS A21 x.2.1, puS A21 x.2.1, lgS A21 q21 x.2.2.2 x.2.1, dev q21 x.2.2.1] ++ R) := by
      rintro ⟨i, C, D, sl⟩ ⟨hI1, hX1⟩
      refine hK8 _ _ ?_
      obtain ⟨hS, hsl, hi1, hi2⟩ := hI1; dsimp only at hS hsl hi1 hi2 ⊢; have hal := all_le hS.g.ok; have hbl := hS.g.bl
      refine cseq ?_; intro K10 hK10
      refine creg ?_
      refine y (ev_move rfl) rfl ?_
      refine ycall (nTold (C := C) ?bl27) rfl Tryz.call22 (by repeat first | exact .nil | exact .z | apply Pk.s | apply Tk.cons) rfl ?_
      case bl27 => omega
      rintro v L' ⟨s56, rfl, ok56, rfl⟩
      refine ya (ac_alloc Tryz.zeroValue50 rfl) rfl ?_
      rintro v L' ⟨b13, rfl, rfl⟩
      refine ya0 (ac_storeAll rfl rfl (told_one' _ _ _ _ _ _ _ _) Tryz.sizeOf50 (by repeat first | exact .z | apply Rp.s) rfl rfl) ?_
      rintro v L' ⟨rfl, rfl⟩
      refine ynil' (kthn (hK10 _ _ ?_))
      clear hK10
      refine cseq ?_; intro K11 hK11
      refine creg ?_
      refine y (ev_move rfl) rfl ?_
      refine y (ev_loadN (u := [i64 ve, i64 vs]) rfl Tryz.isAgg31 Tryz.sizeOf31 (by repeat first | exact .z | apply In.s) rfl rfl) rfl ?_
      refine y (ev_move rfl) rfl ?_
      refine ycall (kReset (C := C) (sl := sl) (q := q21) (D := D) (ns := ns) ?cok33 ?its33 ?hv33 ?hl33) rfl Tryz.call27 (by repeat first | exact .nil | exact .z | apply Pk.s | apply Tk.cons) rfl ?_
      case cok33 => exact hS.g.ok
      case its33 => exact hsl
      case hv33 => first | exact hnv.mono (by repeat first | exact .refl | exact .nil | exact .z | apply Pk.s | refine Ge.e ?_ | apply Ge.pick | apply Ge.drop) | exact rdV_in (by repeat first | exact .z | apply In.s) rfl rfl
      case hl33 => first | omega | (simp; done)
      rintro v L' ⟨sl60, rfl, ok60, rfl⟩
      obtain ⟨hdr, hcr⟩ := hS.reset (by omega) (by omega) ve vs ns
      have hSr := hdr.s
      have hnor := hdr.no
      generalize C.reset D ve vs ns = rr at *
      obtain ⟨e1, C1, D1⟩ := rr
      dsimp only at *
      have hal1 := all_le hSr.g.ok
      have hbl1 := hSr.g.bl
      refine y (ev_assign rfl) rfl ?_
      refine ynil' (kthn (hK11 _ _ ?_))
      clear hK11
      refine cseq ?_; intro K12 hK12
      refine creg ?_
      refine y (ev_move rfl) rfl ?_
      refine ycall (nTold (C := C1) ?bl36) rfl Tryz.call22 (by repeat first | exact .nil | exact .z | apply Pk.s | apply Tk.cons) rfl ?_
      case bl36 => omega
      rintro v L' ⟨s62, rfl, ok62, rfl⟩
      refine ya (ac_alloc Tryz.zeroValue50 rfl) rfl ?_
      rintro v L' ⟨b15, rfl, rfl⟩
      refine ya0 (ac_storeAll rfl rfl (told_one' _ _ _ _ _ _ _ _) Tryz.sizeOf50 (by repeat first | exact .z | apply Rp.s) rfl rfl) ?_
      rintro v L' ⟨rfl, rfl⟩
      refine ynil' (kthn (hK12 _ _ ?_))
      clear hK12
      refine cseq ?_; intro K13 hK13
      refine cseq ?_; intro K14 hK14
      refine creg ?_
      refine y (ev_move rfl) rfl ?_
      refine y (ev_neq rfl rfl) rfl ?_
      refine ynil' (kthn (hK14 _ _ ?_))
      clear hK14
      refine ccond rfl (fun h41 => ?_) (fun h41 => ?_)
      ·(try simp only [sH] at h41)
       have hC1 := hnor h41
       have he1 : e1 = 1 := by rcases hcr with ⟨_, h⟩ | ⟨_, h, _⟩; exact congrArg Prod.fst h; exact absurd h h41
       subst hC1
       subst he1
       refine cseq ?_; intro K15 hK15
       refine creg ?_
       refine y (ev_move rfl) rfl ?_
       skip
       ·skip
        refine y (ev_eql rfl rfl) rfl ?_
        refine y (ev_move rfl) rfl ?_
        refine yg1 rfl rfl ?_
        refine y (ev_loadN (u := toldM s56 C1) rfl Tryz.isAgg50 Tryz.sizeOf50 (by repeat first | exact .z | apply In.s) rfl rfl) rfl ?_
        refine yg1 rfl rfl ?_
        refine y (ev_loadN (u := toldM s62 C1) rfl Tryz.isAgg50 Tryz.sizeOf50 (by repeat first | exact .z | apply In.s) rfl rfl) rfl ?_
        refine yg1 rfl rfl ?_
        refine ycall (nAlike (u1 := C1.all) (u2 := C1.all) (k1 := C1.k) (k2 := C1.k) ?ia47 ?ib47 ?ic47 ?id47) rfl Tryz.call21 (by repeat first | exact .nil | exact .z | apply Pk.s | apply Tk.cons) rfl ?_
        case ia47 => exact rdV_sv (by repeat first | exact .z | apply In.s) ok56
        case ib47 => exact rdV_sv (by repeat first | exact .z | apply In.s) ok62
        case ic47 => omega
        case id47 => omega
        rintro v L' ⟨rfl, rfl⟩
        rw [show decide (C1.all = C1.all ∧ C1.k = C1.k) = true by simp]
        refine y (ev_pick1 rfl rfl) rfl ?_
        refine y (ev_assign rfl) rfl ?_
        refine ynil' (kthn (hK15 _ _ ?_))
        clear hK15
        refine cret (kthr ?_)
        first
          | (exfalso; omega; done)
          | (refine kretv Tryz.results9 rfl (L1 := R) (by repeat first | exact .refl | exact .nil | exact .z | apply Pk.s | refine Ge.e ?_ | apply Ge.pick | apply Ge.drop) ?_
             exact ⟨[], ⟨rfl, rfl⟩, rfl⟩)
      ·(try simp only [sH] at h41)
       have he1 : e1 = 0 := h41
       have hgood : wrongV ve vs ns = false ∧ aget C1.en = aget C.en ∧ C1.k = ⟨ve, vs, t4Of ns⟩ := by
         rcases hcr with ⟨_, h⟩ | ⟨h1, _, h2, h3⟩
         · have := congrArg Prod.fst h; dsimp only at this; omega
         · exact ⟨h1, h2, h3⟩
       obtain ⟨hw, hen1, hk1⟩ := hgood
       obtain ⟨-, -, m0, m1, m2, m3, rfl, -, -, -, -⟩ := wrong_no hw
       have hall1 : C1.all = C.all := all_congr (by rw [hbl1, hbl]) (fun j => congrFun hen1 j)
       refine cskip' (kthn (hK13 _ _ ?_))
       clear hK13
       refine cseq ?_; intro K16 hK16
       refine cseq ?_; intro K17 hK17
       refine creg ?_
       refine y (ev_fieldAddr 1 rfl Tryz.underlying50 rfl Tryz.sizeOf31) rfl ?_
       skip
       ·skip
        refine y (ev_loadN (u := [i64 C1.k.e, i64 C1.k.s]) rfl Tryz.isAgg31 Tryz.sizeOf31 (by repeat first | exact .z | apply In.s) rfl rfl) rfl ?_
        refine y (ev_loadN (u := [i64 ve, i64 vs]) rfl Tryz.isAgg31 Tryz.sizeOf31 (by repeat first | exact .z | apply In.s) rfl rfl) rfl ?_
        refine y (ev_neqF rfl rfl (by kernel_rfl) (by simp only [List.cons.injEq, Value.int.injEq, Value.string.injEq, Value.bool.injEq, str_inj, intsV_inj, MsgM.cells_inj, true_and, and_true]; exact Iff.rfl)) rfl ?_
        rw [show (!decide (C1.k.e = ve ∧ C1.k.s = vs)) = false by rw [hk1]; simp]
        refine y (ev_move rfl) rfl ?_
        refine yg1 rfl rfl ?_
        refine y (ev_fieldAddr 0 rfl Tryz.underlying50 rfl Tryz.sizeOf41) rfl ?_
        refine yg1 rfl rfl ?_
        refine y (ev_load rfl Tryz.isAgg41 (by repeat first | exact .z | apply In.s) rfl) rfl ?_
        refine yg1 rfl rfl ?_
        refine y (ev_fieldAddr 0 rfl Tryz.underlying50 rfl Tryz.sizeOf41) rfl ?_
        refine yg1 rfl rfl ?_
        refine y (ev_load rfl Tryz.isAgg41 (by repeat first | exact .z | apply In.s) rfl) rfl ?_
        refine yg1 rfl rfl ?_
        refine ycall (nSame9 (u1 := C1.all) (u2 := C.all) ?ia59 ?ib59 ?ic59 ?id59) rfl Tryz.call28 (by repeat first | exact .nil | exact .z | apply Pk.s | apply Tk.cons) rfl ?_
        case ia59 => exact rdV_sv (by repeat first | exact .z | apply In.s) ok62
        case ib59 => exact rdV_sv (by repeat first | exact .z | apply In.s) ok56
        case ic59 => omega
        case id59 => omega
        rintro v L' ⟨rfl, rfl⟩
        rw [show decide (C1.all = C.all) = true from decide_eq_true hall1]
        refine yg1 rfl rfl ?_
        refine y (ev_not rfl) rfl ?_
        refine y (ev_pick0 rfl rfl) rfl ?_
        refine ynil' (kthn (hK17 _ _ ?_))
        clear hK17
        refine ccond0 rfl ?_
        refine cskip' (kthn (hK16 _ _ ?_))
        clear hK16
        refine cseq ?_; intro K18 hK18
        refine cseq ?_; intro K19 hK19
        refine creg ?_
        refine y (ev_move rfl) rfl ?_
        refine ynil' (kthn (hK19 _ _ ?_))
        clear hK19
        have hJ2 : ∀ x : Nat, ((x ≤ 4) ∧ (True)) → Sk 106 K18 ([(84, i64 x), (15, ptr b15), (10, ptr A21.p), (3, nv)]) ([sc b15 (toldM s62 C1) 50, svSeg s62 34 (entsV C1.all), caP A21 C1, enS A21 C1, puS A21 C1, lgS A21 q21 sl60 C1, dev q21 D1] ++ R) := by
         rintro j ⟨hI2, hX2⟩
         refine hK18 _ _ ?_
         have hj := hI2
         refine cseq ?_; intro K20 hK20
         refine cseq ?_; intro K21 hK21
         refine creg ?_
         refine y (ev_move rfl) rfl ?_
         refine y (ev_build (vs := [i64 0, i64 0]) (zs := _) rfl Tryz.underlying31 Tryz.zeroValue31 rfl (.cons Tryz.sizeOf2 (.cons Tryz.sizeOf2 .nil)) trivial (by dsimp [fillL, splice, vcells] <;> rfl)) rfl ?_
         refine ya (ac_make (zs := _) rfl rfl Tryz.underlying56 Tryz.typeInfo2 Tryz.sizeOf2 Tryz.zeroValue2 rfl rfl (by decide) ?lt65 ?big65) rfl ?_
         case lt65 => decide
         case big65 => decide
         rintro v L' ⟨b99, rfl, rfl⟩
         refine ycall (kNote (C := C1) (sl := sl60) (q := q21) (D := D1) (e := 0) (s := 0) (ns := [0, 0, 0, 0]) ?cok66 ?its66 ?hv66 ?hl66) rfl Tryz.call29 (by repeat first | exact .nil | exact .z | apply Pk.s | apply Tk.cons) rfl ?_
         case cok66 => exact hSr.g.ok
         case its66 => exact ok60
         case hv66 => first | exact hnv.mono (by repeat first | exact .refl | exact .nil | exact .z | apply Pk.s | refine Ge.e ?_ | apply Ge.pick | apply Ge.drop) | exact rdV_in (by repeat first | exact .z | apply In.s) rfl rfl
         case hl66 => first | omega | (simp; done)
         rintro v L' ⟨sl100, rfl, ok100, rfl⟩
         obtain ⟨hdn, hcn⟩ := hSr.note (by omega) (by omega) 0 0 [0, 0, 0, 0]
         have hSn := hdn.s
         generalize C1.note D1 0 0 [0, 0, 0, 0] = rn at *
         obtain ⟨e2, C2, D2⟩ := rn
         dsimp only at *
         have hal2 := all_le hSn.g.ok
         have hbl2 := hSn.g.bl
         obtain ⟨he2, hen2, hk2⟩ : e2 = 0 ∧ aget C2.en = aget C1.en ∧ C2.k = C1.k := by
           rcases hcn with ⟨h, _⟩ | ⟨_, h2, h3, h4⟩
           · exact absurd h (by decide)
           · exact ⟨h2, h3, by rw [h4, note_zero hSr.g.ok.k]⟩
         subst he2
         have hall2 : C2.all = C1.all := all_congr (by rw [hbl2, hbl1]) (fun j => congrFun hen2 j)
         skip
         ·skip
          refine y (ev_neq rfl rfl) rfl ?_
          refine ynil' (kthn (hK21 _ _ ?_))
          clear hK21
          refine ccond0 rfl ?_
          refine cskip' (kthn (hK20 _ _ ?_))
          clear hK20
          refine cseq ?_; intro K22 hK22
          refine cdraw 3 [(0, true), (2, true), (1, false)] (_) Tryz.mixed (by kernel_rfl) .refl ?_
          refine hr rfl (ev_move rfl) rfl ?_
          refine hr rfl (ev_loadN (u := toldM s62 C1) rfl Tryz.isAgg50 Tryz.sizeOf50 (by repeat first | exact .z | apply In.s) rfl rfl) rfl ?_
          refine hcall rfl (nTold (C := C2) ?bl70) rfl Tryz.call22 (by repeat first | exact .nil | exact .z | apply Pk.s | apply Tk.cons) rfl ?_
          case bl70 => omega
          rintro v L' ⟨s103, rfl, ok103, rfl⟩; refine ⟨(by repeat first | exact .refl | exact .nil | exact .z | apply Pk.s | refine Ge.e ?_ | apply Ge.pick | apply Ge.drop), ?_⟩
          refine hnil ?_
          refine ycall (nAlike (u1 := C2.all) (u2 := C1.all) (k1 := C2.k) (k2 := C1.k) ?ia71 ?ib71 ?ic71 ?id71) rfl Tryz.call21 (by repeat first | exact .nil | exact .z | apply Pk.s | apply Tk.cons) rfl ?_
          case ia71 => exact rdV_sv (by repeat first | exact .z | apply In.s) ok103
          case ib71 => exact rdV_sv (by repeat first | exact .z | apply In.s) ok62
          case ic71 => omega
          case id71 => omega
          rintro v L' ⟨rfl, rfl⟩
          rw [show decide (C2.all = C1.all ∧ C2.k = C1.k) = true from decide_eq_true ⟨hall2, hk2⟩]
          refine y (ev_assign rfl) rfl ?_
          refine hnoP' (kthn (hK22 _ _ ?_))
          clear hK22
          refine cret ?_
          first
            | (exfalso; omega; done)
            | (refine kretv Tryz.results9 rfl (L1 := R) (by repeat first | exact .refl | exact .nil | exact .z | apply Pk.s | refine Ge.e ?_ | apply Ge.pick | apply Ge.drop) ?_
               exact ⟨_, ⟨by first | rfl | (exfalso; omega; done), rfl⟩, by first | rfl | (exfalso; omega; done)⟩)
        clear hK18
        refine cblock ?_
        refine cloop (A := Nat) (fun x => [(84, i64 x), (15, ptr b15), (10, ptr A21.p), (3, nv)]) (fun x => [sc b15 (toldM s62 C1) 50, svSeg s62 34 (entsV C1.all), caP A21 C1, enS A21 C1, puS A21 C1, lgS A21 q21 sl60 C1, dev q21 D1] ++ R) (fun x => x ≤ 4) (fun x => 4 - x) (0) ?_ (by repeat first | exact sub_nil | refine sub_cons rfl ?_ | refine sub_cons' rfl (by simp) ?_) (by repeat first | exact .refl | exact .nil | exact .z | apply Pk.s | refine Ge.e ?_ | apply Ge.pick | apply Ge.drop) ?_
        · exact Nat.zero_le _
        rintro j hI2 KL2 hL2
        have hI2o := hI2
        have hj := hI2
        refine cseq ?_; intro K23 hK23
        refine creg ?_
        refine y (ev_lss rfl rfl) rfl ?_
        refine ynil' (kthn (hK23 _ _ ?_))
        clear hK23
        refine cseq ?_; intro K24 hK24
        refine ccond rfl (fun h74 => ?_) (fun h74 => ?_)
        ·(try simp only [sH] at h74)
         refine cskip' (kthn (hK24 _ _ ?_))
         clear hK24
         refine cseq ?_; intro K25 hK25
         refine cblock ?_
         refine cseq ?_; intro K26 hK26
         refine creg ?_
         refine y (ev_move rfl) rfl ?_
         refine y (ev_assign rfl) rfl ?_
         refine ynil' (kthn (hK26 _ _ ?_))
         clear hK26
         refine cseq ?_; intro K27 hK27
         refine cdraw 8 [(0, true), (1, true), (2, true), (3, true), (4, true), (5, true), (6, true), (7, true)] (_) Tryz.mixed (by kernel_rfl) .refl ?_
         have hj4 : j = 0 ∨ j = 1 ∨ j = 2 ∨ j = 3 := by omega
         have hgj : ([m0, m1, m2, m3] : List Int)[j]? = some (C1.k.t.get j) := by rw [hk1]; rcases hj4 with rfl | rfl | rfl | rfl <;> rfl
         refine hr rfl (ev_move rfl) rfl ?_
         refine hr rfl (ev_fieldAddr 3 rfl Tryz.underlying50 rfl Tryz.sizeOf48) rfl ?_
         refine hr rfl (ev_ixAddrA rfl rfl Tryz.underlying48 Tryz.sizeOf2 (by omega) (by omega)) rfl ?_
         refine hr rfl (ev_load (v := i64 (C1.k.t.get j)) rfl Tryz.isAgg2 (by repeat first | exact .z | apply In.s) (by rcases hj4 with rfl | rfl | rfl | rfl <;> rfl)) rfl ?_
         refine hr rfl (ev_move rfl) rfl ?_
         refine hr rfl (ev_move rfl) rfl ?_
         refine hr rfl (ev_ixV hnv rfl rfl Tryz.underlying56 Tryz.sizeOf2 (by omega) (by show (j : Int) < 4; omega)) rfl ?_
         refine hr rfl (ev_loadV j hnv (by repeat first | exact .refl | exact .nil | exact .z | apply Pk.s | refine Ge.e ?_ | apply Ge.pick | apply Ge.drop) rfl Tryz.isAgg2 (by simp) (intsV_get hgj)) rfl ?_
         refine hnil ?_
         refine y (ev_neq rfl rfl) rfl ?_
         refine hnoP' (kthn (hK27 _ _ ?_))
         clear hK27
         refine ccond rfl (fun h86 => ?_) (fun h86 => ?_)
         ·(try simp only [sH] at h86)
          exact absurd trivial h86
         ·(try simp only [sH] at h86)
          refine cskip' (kbn (kthn (hK25 _ _ ?_)))
          clear hK25
          refine creg ?_
          refine y (ev_add rfl rfl) rfl ?_
          rw [show IntKind.i64.wrap ((j:Int) + 1) = ((j+1 : Nat) : Int) by rw [wr (by omega) (by omega)]; rfl]
          refine y (ev_move rfl) rfl ?_
          refine ynil' (kthn ?_)
          exact hL2 (j + 1) (by omega) (by omega) _ _ (by repeat first | exact sub_nil | refine sub_cons rfl ?_ | refine sub_cons' rfl (by simp) ?_) (by repeat first | exact .refl | exact .nil | exact .z | apply Pk.s | refine Ge.e ?_ | apply Ge.pick | apply Ge.drop)
        ·(try simp only [sH] at h74)
         refine cexit (kthx (kthx (kbx (kthn ?_))))
         exact ksub (by repeat first | exact sub_nil | refine sub_cons rfl ?_ | refine sub_cons' rfl (by simp) ?_) (by repeat first | exact .refl | exact .nil | exact .z | apply Pk.s | refine Ge.e ?_ | apply Ge.pick | apply Ge.drop) (hJ2 j ⟨hI2o, by first | trivial | omega⟩)
     clear hK8
     refine cblock ?_
     refine cloop (A := Nat × CaM × Dev × Sv) (fun x => [(12, i64 x.1), (10, ptr A21.p), (6, ptr b6), (1, lv), (3, nv)]) (fun x => [sc b6 [i64 ve, i64 vs] 31, caP A21 x.2.1, enS A21 x.2.1, puS A21 x.2.1, lgS A21 q21 x.2.2.2 x.2.1, dev q21 x.2.2.1] ++ R) (fun x => CaS 32 n (200 * x.1 + 1) x.2.1 x.2.2.1 ∧ itOk x.2.2.2 x.2.1.l ∧ x.1 ≤ acts.length ∧ x.1 ≤ 60) (fun x => 60 - x.1) ((0, C0, D0, sl21)) ?_ (by repeat first | exact sub_nil | refine sub_cons rfl ?_ | refine sub_cons' rfl (by simp) ?_) (by repeat first | exact .refl | exact .nil | exact .z | apply Pk.s | refine Ge.e ?_ | apply Ge.pick | apply Ge.drop) ?_
     · exact ⟨hS21, ok21, Nat.zero_le _, Nat.zero_le _⟩
     rintro ⟨i, C, D, sl⟩ hI1 KL1 hL1
     have hI1o := hI1
     obtain ⟨hS, hsl, hi1, hi2⟩ := hI1; dsimp only at hS hsl hi1 hi2 ⊢; have hal := all_le hS.g.ok; have hbl := hS.g.bl
     refine cseq ?_; intro K28 hK28
     refine cseq ?_; intro K29 hK29
     refine creg ?_
     refine y (ev_move rfl) rfl ?_
     refine y (ev_move rfl) rfl ?_
     first
       | refine y (ev_len rfl Tryz.underlying55) rfl ?_
       | refine y (ev_lenSv rfl Tryz.underlying55 (by assumption)) rfl ?_
       | refine y (ev_lenV rfl Tryz.underlying55 (RdV.lenVal (by assumption))) rfl ?_
       | refine y (ev_lenV rfl Tryz.underlying55 (RdB.lenVal (by assumption))) rfl ?_
     refine y (ev_lss rfl rfl) rfl ?_
     refine y (ev_move rfl) rfl ?_
     refine ysplit 38 rfl (fun h94 => ?_) (fun h94 => ?_)
     ·(try simp only [sH] at h94)
      refine yg1 rfl rfl ?_
      refine y (ev_move rfl) rfl ?_
      refine yg1 rfl rfl ?_
      refine y (ev_lss rfl rfl) rfl ?_
      refine y (ev_pick1 rfl rfl) rfl ?_
      refine ynil' (kthn (hK29 _ _ ?_))
      clear hK29
      refine ccond rfl (fun h98 => ?_) (fun h98 => ?_)
      ·(try simp only [sH] at h98)
       refine cskip' (kthn (hK28 _ _ ?_))
       clear hK28
       refine cseq ?_; intro K30 hK30
       refine cblock ?_
       refine cseq ?_; intro K31 hK31
       refine cseq ?_; intro K32 hK32
       refine creg ?_
       obtain ⟨yy, hy⟩ : ∃ yy, acts[i]? = some yy := ⟨_, List.getElem?_eq_getElem (by omega)⟩
       have hact := haa yy (List.mem_of_getElem? hy)
       refine y (ev_move rfl) rfl ?_
       refine y (ev_move rfl) rfl ?_
       refine y (ev_ixV hl rfl rfl Tryz.underlying55 Tryz.sizeOf59 (by omega) (by omega)) rfl ?_
       refine y (ev_loadNV (us := yy.cells) (i * 12) hl (by repeat first | exact .refl | exact .nil | exact .z | apply Pk.s | refine Ge.e ?_ | apply Ge.pick | apply Ge.drop) rfl Tryz.isAgg59 Tryz.sizeOf59 (by simp) (actcsV_get hy) rfl) rfl ?_
       refine ycall (nLarge9 ?lx103) rfl Tryz.call24 (by repeat first | exact .nil | exact .z | apply Pk.s | apply Tk.cons) rfl ?_
       case lx103 => exact hact.mono (by repeat first | exact .refl | exact .nil | exact .z | apply Pk.s | refine Ge.e ?_ | apply Ge.pick | apply Ge.drop)
       rintro v L' ⟨big48, rfl, hbig48, rfl⟩
       refine ynil' (kthn (hK32 _ _ ?_))
       clear hK32
       refine ccond rfl (fun h104 => ?_) (fun h104 => ?_)
       ·(try simp only [sH] at h104)
        refine cseq ?_; intro K33 hK33
        refine creg ?_
        refine y (ev_assign rfl) rfl ?_
        refine ynil' (kthn (hK33 _ _ ?_))
        clear hK33
        refine cret (kthr (kbr (kthr (kthr (kbr (kthr ?_))))))
        first
          | (exfalso; omega; done)
          | (refine kretv Tryz.results9 rfl (L1 := R) (by repeat first | exact .refl | exact .nil | exact .z | apply Pk.s | refine Ge.e ?_ | apply Ge.pick | apply Ge.drop) ?_
             exact ⟨_, ⟨by first | rfl | (exfalso; omega; done), rfl⟩, by first | rfl | (exfalso; omega; done)⟩)
       ·(try simp only [sH] at h104)
        have hlg := hbig48 h104
        refine cskip' (kthn (hK31 _ _ ?_))
        clear hK31
        refine creg ?_
        refine y (ev_move rfl) rfl ?_
        refine y (ev_move rfl) rfl ?_
        refine y (ev_move rfl) rfl ?_
        refine y (ev_ixV hl rfl rfl Tryz.underlying55 Tryz.sizeOf59 (by omega) (by omega)) rfl ?_
        refine y (ev_loadNV (us := yy.cells) (i * 12) hl (by repeat first | exact .refl | exact .nil | exact .z | apply Pk.s | refine Ge.e ?_ | apply Ge.pick | apply Ge.drop) rfl Tryz.isAgg59 Tryz.sizeOf59 (by simp) (actcsV_get hy) rfl) rfl ?_
        refine ycall (nDo (C := C) (sl := sl) (q := q21) (D := D) (a := yy) ?cok111 ?its111 ?lx111 ?lt111) rfl Tryz.call25 (by repeat first | exact .nil | exact .z | apply Pk.s | apply Tk.cons) rfl ?_
        case cok111 => exact hS.g.ok
        case its111 => exact hsl
        case lx111 => exact hact.mono (by repeat first | exact .refl | exact .nil | exact .z | apply Pk.s | refine Ge.e ?_ | apply Ge.pick | apply Ge.drop)
        case lt111 => omega
        rintro v L' ⟨sl54, rfl, ok54, rfl⟩
        obtain ⟨hdid, hcode⟩ := hS.doM (by omega) (by omega) yy.kind yy.x yy.ts
        generalize doM C D yy.kind yy.x yy.ts = r at *
        obtain ⟨er, C', D'⟩ := r
        dsimp only at *
        have hS' := hdid.s
        dsimp only at hS'
        refine ynil' (kbn (kthn (hK30 _ _ ?_)))
        clear hK30
        refine creg ?_
        refine y (ev_move rfl) rfl ?_
        refine y (ev_add rfl rfl) rfl ?_
        rw [show IntKind.i64.wrap ((i:Int) + 1) = ((i+1 : Nat) : Int) by rw [wr (by omega) (by omega)]; rfl]
        refine y (ev_assign rfl) rfl ?_
        refine ynil' (kthn ?_)
        exact hL1 ((i + 1, C', D', sl54)) (⟨hS'.le (by omega), ok54, by dsimp only; omega, by dsimp only; omega⟩) (by dsimp only; omega) _ _ (by repeat first | exact sub_nil | refine sub_cons rfl ?_ | refine sub_cons' rfl (by simp) ?_) (by repeat first | exact .refl | exact .nil | exact .z | apply Pk.s | refine Ge.e ?_ | apply Ge.pick | apply Ge.drop)
      ·(try simp only [sH] at h98)
       refine cexit (kthx (kthx (kbx (kthn ?_))))
       exact ksub (by repeat first | exact sub_nil | refine sub_cons rfl ?_ | refine sub_cons' rfl (by simp) ?_) (by repeat first | exact .refl | exact .nil | exact .z | apply Pk.s | refine Ge.e ?_ | apply Ge.pick | apply Ge.drop) (hJ1 ⟨i, C, D, sl⟩ ⟨hI1o, by first | trivial | omega⟩)
     ·(try simp only [sH] at h94)
      refine yg0 rfl rfl rfl rfl ?_
      refine yg0 rfl rfl rfl rfl ?_
      refine y (ev_pick0 rfl rfl) rfl ?_
      refine ynil' (kthn (hK29 _ _ ?_))
      clear hK29
      refine ccond0 rfl ?_
      refine cexit (kthx (kthx (kbx (kthn ?_))))
      exact ksub (by repeat first | exact sub_nil | refine sub_cons rfl ?_ | refine sub_cons' rfl (by simp) ?_) (by repeat first | exact .refl | exact .nil | exact .z | apply Pk.s | refine Ge.e ?_ | apply Ge.pick | apply Ge.drop) (hJ1 ⟨i, C, D, sl⟩ ⟨hI1o, by first | trivial | omega⟩)
end W
end Go.Proofs
