/- A part of the proof: contracts and plain lemmas, each without conditions beyond those that it names. -/
import Derived.Test.YtediodfmkbfomaaGreatC15
import Derived.Test.YtediodfmkbfomaaGreatCacO
set_option linter.unusedVariables false
set_option linter.unusedSimpArgs false
set_option linter.constructorNameAsVariable false
namespace Go.Proofs
open Go Go.Sl
namespace W
set_option linter.unusedVariables false
theorem nFuPut [Env] {R : List Seg} {A : CaA} {q : Q3} {sl : Sv} {C : CaM} {D : Dev} {bs bc : Nat} {b sq : Int} (hC : C.ok D) (hs : itOk sl C.l) (hq : 0 ≤ sq ∧ sq ≤ 1000) :
    Con Tryz.prog 23 ([i64 b] ++ [ptr bs, ptr bc]) [sc bs [i64 sq] 2, sc bc [ptr A.p] 26, caP A C, enS A C, puS A C, lgS A q sl C, dev q D] R
      (fun u L' => ∃ sl', u = i64 (C.put D (fe b (sq + 1))).1 ∧ itOk sl' (C.put D (fe b (sq + 1))).2.1.l ∧ L' = [sc bs [i64 (sq + 1)] 2, sc bc [ptr A.p] 26, caP A (C.put D (fe b (sq + 1))).2.1, enS A (C.put D (fe b (sq + 1))).2.1, puS A (C.put D (fe b (sq + 1))).2.1, lgS A q sl' (C.put D (fe b (sq + 1))).2.1, dev q (C.put D (fe b (sq + 1))).2.2]) := by
  refine con_enter Tryz.func23 Tryz.ntmps23 rfl rfl ?_
  refine cseq ?_; intro K1 hK1
  refine creg ?_
  refine y (ev_assign rfl) rfl ?_
  refine ynil' (kthn (hK1 _ _ ?_))
  clear hK1
  refine cseq ?_; intro K2 hK2
  refine creg ?_
  refine y (ev_load rfl Tryz.isAgg2 (by repeat first | exact .z | apply In.s) rfl) rfl ?_
  refine y (ev_add rfl rfl) rfl ?_
  rw [wr (by omega) (by omega)]
  refine ya0 (ac_store rfl rfl (by first | rfl | exact svVal_one _ _ | assumption) Tryz.sizeOf2 (by repeat first | exact .z | apply Rp.s) rfl rfl) ?_
  rintro v L' ⟨rfl, rfl⟩
  refine ynil' (kthn (hK2 _ _ ?_))
  clear hK2
  refine cseq ?_; intro K3 hK3
  refine creg ?_
  refine y (ev_load rfl Tryz.isAgg26 (by repeat first | exact .z | apply In.s) rfl) rfl ?_
  refine y (ev_move rfl) rfl ?_
  refine y (ev_load rfl Tryz.isAgg2 (by repeat first | exact .z | apply In.s) rfl) rfl ?_
  refine y (ev_build (zs := _) rfl Tryz.underlying31 Tryz.zeroValue31 rfl (.cons Tryz.sizeOf2 (.cons Tryz.sizeOf2 .nil)) ⟨⟨_, _, rfl, (by first | rfl | simp), (by first | decide | simp)⟩, ⟨⟨_, _, rfl, (by first | rfl | simp), (by first | decide | simp)⟩, trivial⟩⟩ (by dsimp [fillL, splice, vcells] <;> rfl)) rfl ?_
  refine y (ev_build (zs := _) rfl Tryz.underlying34 Tryz.zeroValue34 rfl (.cons Tryz.sizeOf3 (.cons Tryz.sizeOf31 (.cons Tryz.sizeOf9 (.cons Tryz.sizeOf4 (.cons Tryz.sizeOf3 (.cons Tryz.sizeOf2 .nil)))))) ⟨⟨_, _, rfl, (by first | rfl | simp), (by first | decide | simp)⟩, ⟨⟨_, _, rfl, (by first | rfl | simp), (by first | decide | simp)⟩, ⟨⟨_, _, rfl, (by first | rfl | simp), (by first | decide | simp)⟩, ⟨⟨_, _, rfl, (by first | rfl | simp), (by first | decide | simp)⟩, ⟨⟨_, _, rfl, (by first | rfl | simp), (by first | decide | simp)⟩, trivial⟩⟩⟩⟩⟩ (by dsimp [fillL, splice, vcells] <;> rfl)) rfl ?_
  refine ycall (kPut (C := C) (sl := sl) (q := q) (D := D) (x := fe b (sq + 1)) ?cok10 ?its10) rfl Tryz.call13 (by repeat first | exact .nil | exact .z | apply Pk.s | apply Tk.cons) rfl ?_
  case cok10 => exact hC
  case its10 => exact hs
  rintro v L' ⟨sl12, rfl, ok12, rfl⟩
  refine y (ev_assign rfl) rfl ?_
  refine ynil' (kthn (hK3 _ _ ?_))
  clear hK3
  refine cret ?_
  first
    | (exfalso; omega; done)
    | (refine kretv Tryz.results23 rfl (L1 := [sc bs [i64 (sq + 1)] 2, sc bc [ptr A.p] 26, caP A _, enS A _, puS A _, lgS A q sl12 _, dev q _] ++ R) (by repeat first | exact .refl | exact .nil | exact .z | apply Pk.s | refine Ge.e ?_ | apply Ge.pick | apply Ge.drop) ?_
       exact ⟨_, ⟨sl12, rfl, ok12, rfl⟩, rfl⟩)
theorem tmod_le {a b : Int} (h0 : 0 ≤ a) (hb : 0 < b) : 0 ≤ a.tmod b ∧ a.tmod b < b := by
  rw [Int.tmod_eq_emod_of_nonneg h0]
  exact ⟨Int.emod_nonneg _ (by omega), Int.emod_lt_of_pos _ hb⟩
theorem nCa_23 {x : Int} (h : 0 ≤ x ∧ x < 23) : 8 ≤ nCa x ∧ nCa x ≤ 30 := by unfold nCa; omega
theorem lawCFull [Env] {R : List Seg} {bv cv : Int} (hb : 0 ≤ bv ∧ bv ≤ 255) (hc : 0 ≤ cv ∧ cv ≤ 255) :
    Con Tryz.prog 4 [.int .u8 bv, .int .u8 cv] [] R (Is (.bool true) []) := by
  obtain ⟨hr0, hr1⟩ := tmod_le hb.1 (show (0 : Int) < 23 by decide)
  refine con_enter Tryz.func4 Tryz.ntmps4 rfl rfl ?_
  refine cseq ?_; intro K1 hK1
  refine creg ?_
  refine y (ev_assign rfl) rfl ?_
  refine ynil' (kthn (hK1 _ _ ?_))
  clear hK1
  refine cseq ?_; intro K2 hK2
  refine cseq ?_; intro K3 hK3
  refine creg ?_
  refine ycall (awake9) rfl Tryz.call11 (by repeat first | exact .nil | exact .z | apply Pk.s | apply Tk.cons) rfl ?_
  rintro v L' ⟨rfl, rfl⟩
  skip
  ·skip
   refine y (ev_not rfl) rfl ?_
   refine ynil' (kthn (hK3 _ _ ?_))
   clear hK3
   refine ccond0 rfl ?_
   refine cskip' (kthn (hK2 _ _ ?_))
   clear hK2
   refine cseq ?_; intro K4 hK4
   refine creg ?_
   refine y (ev_move rfl) rfl ?_
   refine y (ev_rem rfl rfl (by decide)) rfl ?_
   refine ycall (nOpen9 ?ra17 ?rb17) rfl Tryz.call12 (by repeat first | exact .nil | exact .z | apply Pk.s | apply Tk.cons) rfl ?_
   case ra17 => exact hr0
   case rb17 => omega
   rintro v L' ⟨q25, A25, sl25, C25, D25, rfl, hS25, hv25, ok25, rfl⟩
   obtain ⟨n8, n30⟩ := nCa_23 ⟨hr0, hr1⟩
   generalize nCa (bv.tmod 23) = n at *
   generalize C25 = C0 at *
   generalize D25 = D0 at *
   have hF0 := new_fus hS25 hv25
   have hnn0 := hS25.g.nn
   refine y (ev_move rfl) rfl ?_
   refine y (ev_extract rfl rfl) rfl ?_
   refine y (ev_extract rfl rfl) rfl ?_
   refine y (ev_extract rfl rfl) rfl ?_
   refine ya (ac_alloc Tryz.zeroValue26 rfl) rfl ?_
   rintro v L' ⟨b6, rfl, rfl⟩
   refine y (ev_assign rfl) rfl ?_
   refine ya0 (ac_store rfl rfl (by first | rfl | exact svVal_one _ _ | assumption) Tryz.sizeOf26 (by repeat first | exact .z | apply Rp.s) rfl rfl) ?_
   rintro v L' ⟨rfl, rfl⟩
   refine y (ev_assign rfl) rfl ?_
   refine ynil' (kthn (hK4 _ _ ?_))
   clear hK4
   refine cseq ?_; intro K5 hK5
   refine cseq ?_; intro K6 hK6
   refine creg ?_
   refine y (ev_load rfl Tryz.isAgg26 (by repeat first | exact .z | apply In.s) rfl) rfl ?_
   skip
   ·skip
    refine y (ev_eqlPnil rfl rfl Tryz.underlying26) rfl ?_
    refine y (ev_move rfl) rfl ?_
    refine yg1 rfl rfl ?_
    refine y (ev_load rfl Tryz.isAgg26 (by repeat first | exact .z | apply In.s) rfl) rfl ?_
    refine yg1 rfl rfl ?_
    refine ycall (kRoom (C := C0) ?rn30) rfl Tryz.call14 (by repeat first | exact .nil | exact .z | apply Pk.s | apply Tk.cons) rfl ?_
    case rn30 => omega
    rintro v L' ⟨rfl, rfl⟩
    refine yg1 rfl rfl ?_
    refine y (ev_move rfl) rfl ?_
    refine yg1 rfl rfl ?_
    refine y (ev_sub rfl rfl) rfl ?_
    rw [wr (by omega) (by omega)]
    refine yg1 rfl rfl ?_
    refine y (ev_neq rfl rfl) rfl ?_
    rw [show (!decide ((C0.n : Int) - 6 = (n : Int) - 6)) = false by rw [hnn0]; simp]
    refine y (ev_pick0 rfl rfl) rfl ?_
    refine ynil' (kthn (hK6 _ _ ?_))
    clear hK6
    refine ccond0 rfl ?_
    refine cskip' (kthn (hK5 _ _ ?_))
    clear hK5
    refine cseq ?_; intro K7 hK7
    refine creg ?_
    refine y (ev_load rfl Tryz.isAgg26 (by repeat first | exact .z | apply In.s) rfl) rfl ?_
    refine ycall (kRoom (C := C0) ?rn36) rfl Tryz.call14 (by repeat first | exact .nil | exact .z | apply Pk.s | apply Tk.cons) rfl ?_
    case rn36 => omega
    rintro v L' ⟨rfl, rfl⟩
    rw [show ((C0.n : Int) - 6) = ((n - 6 : Nat) : Int) by omega]
    refine y (ev_assign rfl) rfl ?_
    refine ynil' (kthn (hK7 _ _ ?_))
    clear hK7
    refine cseq ?_; intro K8 hK8
    refine creg ?_
    refine ya (ac_alloc Tryz.zeroValue2 rfl) rfl ?_
    rintro v L' ⟨b9, rfl, rfl⟩
    refine ya0 (ac_store rfl rfl (by first | rfl | exact svVal_one _ _ | assumption) Tryz.sizeOf2 (by repeat first | exact .z | apply Rp.s) rfl rfl) ?_
    rintro v L' ⟨rfl, rfl⟩
    refine ynil' (kthn (hK8 _ _ ?_))
    clear hK8
    refine cseq ?_; intro K9 hK9
    refine creg ?_
    refine y (ev_mkFunc (vs := #[ptr b9, ptr b6]) (fun a hf => by
        have h1 : a.eval (.tmp 9) = ptr b9 := hf.ev rfl
        have h2 : a.eval (.tmp 6) = ptr b6 := hf.ev rfl
        simp [h1, h2])) rfl ?_
    refine y (ev_assign rfl) rfl ?_
    refine ynil' (kthn (hK9 _ _ ?_))
    clear hK9
    refine cseq ?_; intro K10 hK10
    refine cseq ?_; intro K11 hK11
    refine creg ?_
    refine y (ev_assign rfl) rfl ?_
    refine ynil' (kthn (hK11 _ _ ?_))
    clear hK11
    have hJ1 : ∀ x : Nat × CaM × Dev × Sv, ((FuS n x.1 (200 * x.1 + 1) (x.1 : Nat) x.2.1 x.2.2.1 ∧ itOk x.2.2.2 x.2.1.l ∧ x.1 ≤ n - 6) ∧ (x.1 = n - 6)) → Sk 118 K10 ([(11, i64 x.1), (10, .func (.func 23) #[] #[ptr b9, ptr b6]), (9, ptr b9), (8, i64 ((n - 6 : Nat) : Int)), (6, ptr b6), (1, .int .u8 cv)]) ([sc b9 [i64 (x.1 : Nat)] 2, sc b6 [ptr A25.p] 26, caP A25 x.2.1, enS A25 x.2.1, puS A25 x.2.1, lgS A25 q25 x.2.2.2 x.2.1, dev q25 x.2.2.1] ++ R) := by
     rintro ⟨i, C, D, sl⟩ ⟨hI1, hX1⟩
     refine hK10 _ _ ?_
     obtain ⟨hF, hsl, hi⟩ := hI1; dsimp only at hF hsl hi ⊢
     dsimp only at hX1; obtain ⟨rm, hrm⟩ : ∃ rm : Nat, n - 6 = rm := ⟨_, rfl⟩; rw [hrm] at hX1 ⊢; subst hX1
     refine cseq ?_; intro K12 hK12
     refine creg ?_
     obtain ⟨hm0, hm1⟩ := tmod_le hc.1 (show (0 : Int) < 32 - (i : Nat) by omega)
     obtain ⟨hk0, hk1⟩ := tmod_le hc.1 (show (0 : Int) < (i : Nat) by omega)
     refine y (ev_move rfl) rfl ?_
     refine y (ev_move rfl) rfl ?_
     refine y (ev_conv rfl Tryz.underlying5 Tryz.underlying3) rfl ?_
     rw [show IntKind.i64.wrap cv = cv from wr (by omega) (by omega)]
     refine y (ev_move rfl) rfl ?_
     refine y (ev_sub rfl rfl) rfl ?_
     rw [wr (by omega) (by omega)]
     refine y (ev_rem rfl rfl (by omega)) rfl ?_
     generalize cv.tmod (32 - (i : Nat)) = mo at *
     refine y (ev_add rfl rfl) rfl ?_
     rw [wr (by omega) (by omega)]
     refine y (ev_assign rfl) rfl ?_
     refine ynil' (kthn (hK12 _ _ ?_))
     clear hK12
     refine cseq ?_; intro K13 hK13
     refine cseq ?_; intro K14 hK14
     refine creg ?_
     refine y (ev_move rfl) rfl ?_
     refine y (ev_move rfl) rfl ?_
     refine ycallF rfl (nFuPut (A := A25) (q := q25) (bs := b9) (bc := b6) (D := D) (C := C) (sl := sl) (sq := (i : Nat)) hF.s.g.ok hsl (by omega)) rfl Tryz.call23 (by repeat first | exact .nil | exact .z | apply Pk.s | apply Tk.cons) rfl ?_
     rintro v L' ⟨sl59, rfl, ok59, rfl⟩
     obtain ⟨e2, e2', hF2⟩ := hF.full (by omega) n30 (by omega) (by omega) (m := (i : Nat) + mo) (by omega)
     generalize C.put D (fe ((i : Nat) + mo) ((i : Nat) + 1)) = r2 at *
     obtain ⟨c2, C2, D2⟩ := r2
     dsimp only at *
     subst e2; subst e2'
     skip
     ·skip
      refine y (ev_neq rfl rfl) rfl ?_
      refine ynil' (kthn (hK14 _ _ ?_))
      clear hK14
      refine ccond0 rfl ?_
      refine cskip' (kthn (hK13 _ _ ?_))
      clear hK13
      refine cseq ?_; intro K15 hK15
      refine creg ?_
      refine y (ev_move rfl) rfl ?_
      refine y (ev_conv rfl Tryz.underlying5 Tryz.underlying3) rfl ?_
      rw [show IntKind.i64.wrap cv = cv from wr (by omega) (by omega)]
      refine y (ev_move rfl) rfl ?_
      refine y (ev_rem rfl rfl (by omega)) rfl ?_
      generalize cv.tmod (i : Nat) = kk at *
      refine y (ev_assign rfl) rfl ?_
      refine ynil' (kthn (hK15 _ _ ?_))
      clear hK15
      refine cseq ?_; intro K16 hK16
      refine cseq ?_; intro K17 hK17
      refine creg ?_
      refine y (ev_move rfl) rfl ?_
      refine y (ev_move rfl) rfl ?_
      refine ycallF rfl (nFuPut (A := A25) (q := q25) (bs := b9) (bc := b6) (D := D2) (C := C2) (sl := sl59) (sq := (i : Nat) + 1) hF2.s.g.ok ok59 (by omega)) rfl Tryz.call23 (by repeat first | exact .nil | exact .z | apply Pk.s | apply Tk.cons) rfl ?_
      rintro v L' ⟨sl67, rfl, ok67, rfl⟩
      obtain ⟨e3, hF3, hg3⟩ := hF2.again (by omega) n30 (by omega) (by omega) (m := kk) (by omega)
      generalize C2.put D2 (fe kk ((i : Nat) + 1 + 1)) = r3 at *
      obtain ⟨c3, C3, D3⟩ := r3
      dsimp only at *
      subst e3
      skip
      ·skip
       refine y (ev_neq rfl rfl) rfl ?_
       refine y (ev_move rfl) rfl ?_
       refine yg1 rfl rfl ?_
       refine y (ev_load rfl Tryz.isAgg26 (by repeat first | exact .z | apply In.s) rfl) rfl ?_
       refine yg1 rfl rfl ?_
       refine ycall (kAll (C := C3) ?bl66) rfl Tryz.call17 (by repeat first | exact .nil | exact .z | apply Pk.s | apply Tk.cons) rfl ?_
       case bl66 => rw [hF3.s.g.bl]; decide
       rintro v L' ⟨s71, rfl, ok71, rfl⟩
       rw [hF3.all (by omega)] at ok71 ⊢
       refine yg1 rfl rfl ?_
       first
         | refine y (ev_len rfl Tryz.underlying41) rfl ?_
         | refine y (ev_lenSv rfl Tryz.underlying41 (by assumption)) rfl ?_
         | refine y (ev_lenV rfl Tryz.underlying41 (RdV.lenVal (by assumption))) rfl ?_
         | refine y (ev_lenV rfl Tryz.underlying41 (RdB.lenVal (by assumption))) rfl ?_
       refine yg1 rfl rfl ?_
       refine y (ev_move rfl) rfl ?_
       refine yg1 rfl rfl ?_
       refine y (ev_neq rfl rfl) rfl ?_
       rw [show (!decide (((i : Nat) : Int) = ((i : Nat) : Int))) = false by simp]
       refine y (ev_pick0 rfl rfl) rfl ?_
       refine ynil' (kthn (hK17 _ _ ?_))
       clear hK17
       refine ccond0 rfl ?_
       refine cskip' (kthn (hK16 _ _ ?_))
       clear hK16
       refine cseq ?_; intro K18 hK18
       refine creg ?_
       refine y (ev_load rfl Tryz.isAgg26 (by repeat first | exact .z | apply In.s) rfl) rfl ?_
       refine y (ev_move rfl) rfl ?_
       refine ycall (kGet (C := C3)) rfl Tryz.call15 (by repeat first | exact .nil | exact .z | apply Pk.s | apply Tk.cons) rfl ?_
       rintro v L' ⟨rfl, rfl⟩
       rw [hg3]
       refine y (ev_move rfl) rfl ?_
       refine y (ev_extract rfl rfl) rfl ?_
       refine y (ev_extract rfl rfl) rfl ?_
       refine ya (ac_alloc Tryz.zeroValue34 rfl) rfl ?_
       rintro v L' ⟨b14, rfl, rfl⟩
       refine ya0 (ac_storeAll rfl rfl (ent_one (fe kk ((i : Nat) + 1 + 1))) Tryz.sizeOf34 (by repeat first | exact .z | apply Rp.s) rfl rfl) ?_
       rintro v L' ⟨rfl, rfl⟩
       refine y (ev_assign rfl) rfl ?_
       refine ynil' (kthn (hK18 _ _ ?_))
       clear hK18
       refine cseq ?_; intro K19 hK19
       refine cseq ?_; intro K20 hK20
       refine creg ?_
       refine y (ev_load rfl Tryz.isAgg26 (by repeat first | exact .z | apply In.s) rfl) rfl ?_
       refine y (ev_move rfl) rfl ?_
       refine y (ev_fieldAddr 1 rfl Tryz.underlying34 rfl Tryz.sizeOf31) rfl ?_
       refine y (ev_loadN (u := [i64 1, i64 ((i : Nat) + 1 + 1)]) rfl Tryz.isAgg31 Tryz.sizeOf31 (by repeat first | exact .z | apply In.s) rfl rfl) rfl ?_
       refine ycall (kClean (C := C3) (sl := sl67) (q := q25) (D := D3) (b := kk) (e := 1) (s := (i : Nat) + 1 + 1) ?cok84 ?its84) rfl Tryz.call16 (by repeat first | exact .nil | exact .z | apply Pk.s | apply Tk.cons) rfl ?_
       case cok84 => exact hF3.s.g.ok
       case its84 => exact ok67
       rintro v L' ⟨sl86, rfl, ok86, rfl⟩
       obtain ⟨e4, hS4, hen4, hk4⟩ := hF3.clean (by omega) n30 hg3
       generalize C3.clean D3 kk 1 ((i : Nat) + 1 + 1) = r4 at *
       obtain ⟨c4, C4, D4⟩ := r4
       dsimp only at *
       subst e4
       skip
       ·skip
        refine y (ev_neq rfl rfl) rfl ?_
        refine y (ev_move rfl) rfl ?_
        refine yg1 rfl rfl ?_
        refine y (ev_move rfl) rfl ?_
        refine yg1 rfl rfl ?_
        refine y (ev_move rfl) rfl ?_
        refine yg1 rfl rfl ?_
        refine ycallF rfl (nFuPut (A := A25) (q := q25) (bs := b9) (bc := b6) (D := D4) (C := C4) (sl := sl86) (sq := (i : Nat) + 1 + 1) hS4.g.ok ok86 (by omega)) rfl Tryz.call23 (by repeat first | exact .nil | exact .z | apply Pk.s | apply Tk.cons) rfl ?_
        rintro v L' ⟨sl91, rfl, ok91, rfl⟩
        obtain ⟨e5, hS5, hg5, hg6, ha5⟩ := hF3.fin (by omega) n30 (by omega) (by omega) (m := kk) (t := (i : Nat) + mo) (by omega) (by omega) hg3 hS4 hen4 hk4
        generalize C4.put D4 (fe ((i : Nat) + mo) ((i : Nat) + 1 + 1 + 1)) = r5 at *
        obtain ⟨c5, C5, D5⟩ := r5
        dsimp only at *
        subst e5
        refine yg1 rfl rfl ?_
        refine y (ev_neq rfl rfl) rfl ?_
        refine y (ev_pick0 rfl rfl) rfl ?_
        refine y (ev_move rfl) rfl ?_
        refine yg1 rfl rfl ?_
        refine y (ev_load rfl Tryz.isAgg26 (by repeat first | exact .z | apply In.s) rfl) rfl ?_
        refine yg1 rfl rfl ?_
        refine ycall (kAll (C := C5) ?bl94) rfl Tryz.call17 (by repeat first | exact .nil | exact .z | apply Pk.s | apply Tk.cons) rfl ?_
        case bl94 => rw [hS5.g.bl]; decide
        rintro v L' ⟨s96, rfl, ok96, rfl⟩
        rw [ha5] at ok96 ⊢
        refine yg1 rfl rfl ?_
        first
          | refine y (ev_len rfl Tryz.underlying41) rfl ?_
          | refine y (ev_lenSv rfl Tryz.underlying41 (by assumption)) rfl ?_
          | refine y (ev_lenV rfl Tryz.underlying41 (RdV.lenVal (by assumption))) rfl ?_
          | refine y (ev_lenV rfl Tryz.underlying41 (RdB.lenVal (by assumption))) rfl ?_
        refine yg1 rfl rfl ?_
        refine y (ev_move rfl) rfl ?_
        refine yg1 rfl rfl ?_
        refine y (ev_neq rfl rfl) rfl ?_
        rw [show (!decide (((i : Nat) : Int) = ((i : Nat) : Int))) = false by simp]
        refine y (ev_pick0 rfl rfl) rfl ?_
        refine ynil' (kthn (hK20 _ _ ?_))
        clear hK20
        refine ccond0 rfl ?_
        refine cskip' (kthn (hK19 _ _ ?_))
        clear hK19
        refine cseq ?_; intro K21 hK21
        refine creg ?_
        refine y (ev_load rfl Tryz.isAgg26 (by repeat first | exact .z | apply In.s) rfl) rfl ?_
        refine y (ev_move rfl) rfl ?_
        refine ycall (kGet (C := C5)) rfl Tryz.call15 (by repeat first | exact .nil | exact .z | apply Pk.s | apply Tk.cons) rfl ?_
        rintro v L' ⟨rfl, rfl⟩
        rw [hg5]
        refine y (ev_move rfl) rfl ?_
        refine y (ev_extract rfl rfl) rfl ?_
        refine y (ev_extract rfl rfl) rfl ?_
        refine ya (ac_alloc Tryz.zeroValue34 rfl) rfl ?_
        rintro v L' ⟨b16, rfl, rfl⟩
        refine ya0 (ac_storeAll rfl rfl (ent_one _) Tryz.sizeOf34 (by repeat first | exact .z | apply Rp.s) rfl rfl) ?_
        rintro v L' ⟨rfl, rfl⟩
        refine y (ev_assign rfl) rfl ?_
        refine ynil' (kthn (hK21 _ _ ?_))
        clear hK21
        refine cseq ?_; intro K22 hK22
        refine creg ?_
        refine y (ev_load rfl Tryz.isAgg26 (by repeat first | exact .z | apply In.s) rfl) rfl ?_
        refine y (ev_move rfl) rfl ?_
        refine ycall (kGet (C := C5)) rfl Tryz.call15 (by repeat first | exact .nil | exact .z | apply Pk.s | apply Tk.cons) rfl ?_
        rintro v L' ⟨rfl, rfl⟩
        rw [hg6]
        refine y (ev_move rfl) rfl ?_
        refine y (ev_extract rfl rfl) rfl ?_
        refine y (ev_extract rfl rfl) rfl ?_
        refine ya (ac_alloc Tryz.zeroValue34 rfl) rfl ?_
        rintro v L' ⟨b18, rfl, rfl⟩
        refine ya0 (ac_storeAll rfl rfl (ent_one _) Tryz.sizeOf34 (by repeat first | exact .z | apply Rp.s) rfl rfl) ?_
        rintro v L' ⟨rfl, rfl⟩
        refine y (ev_assign rfl) rfl ?_
        refine ynil' (kthn (hK22 _ _ ?_))
        clear hK22
        refine cseq ?_; intro K23 hK23
        refine creg ?_
        skip
        ·skip
         refine y (ev_move rfl) rfl ?_
         refine y (ev_not rfl) rfl ?_
         refine y (ev_move rfl) rfl ?_
         refine yg1 rfl rfl ?_
         refine y (ev_move rfl) rfl ?_
         refine y (ev_pick1 rfl rfl) rfl ?_
         refine y (ev_assign rfl) rfl ?_
         refine ynil' (kthn (hK23 _ _ ?_))
         clear hK23
         refine cret ?_
         first
           | (exfalso; omega; done)
           | (refine kretv Tryz.results4 rfl (L1 := R) (by repeat first | exact .refl | exact .nil | exact .z | apply Pk.s | refine Ge.e ?_ | apply Ge.pick | apply Ge.drop) ?_
              exact ⟨_, ⟨by first | rfl | (exfalso; omega; done), rfl⟩, by first | rfl | (exfalso; omega; done)⟩)
    clear hK10
    refine cblock ?_
    refine cloop (A := Nat × CaM × Dev × Sv) (fun x => [(11, i64 x.1), (10, .func (.func 23) #[] #[ptr b9, ptr b6]), (9, ptr b9), (8, i64 ((n - 6 : Nat) : Int)), (6, ptr b6), (1, .int .u8 cv)]) (fun x => [sc b9 [i64 (x.1 : Nat)] 2, sc b6 [ptr A25.p] 26, caP A25 x.2.1, enS A25 x.2.1, puS A25 x.2.1, lgS A25 q25 x.2.2.2 x.2.1, dev q25 x.2.2.1] ++ R) (fun x => FuS n x.1 (200 * x.1 + 1) (x.1 : Nat) x.2.1 x.2.2.1 ∧ itOk x.2.2.2 x.2.1.l ∧ x.1 ≤ n - 6) (fun x => n - x.1) ((0, C0, D0, sl25)) ?_ (by repeat first | exact sub_nil | refine sub_cons rfl ?_ | refine sub_cons' rfl (by simp) ?_) (by repeat first | exact .refl | exact .nil | exact .z | apply Pk.s | refine Ge.e ?_ | apply Ge.pick | apply Ge.drop) ?_
    · exact ⟨hF0, ok25, Nat.zero_le _⟩
    rintro ⟨i, C, D, sl⟩ hI1 KL1 hL1
    have hI1o := hI1
    obtain ⟨hF, hsl, hi⟩ := hI1; dsimp only at hF hsl hi ⊢
    refine cseq ?_; intro K24 hK24
    refine cseq ?_; intro K25 hK25
    refine creg ?_
    refine y (ev_move rfl) rfl ?_
    refine y (ev_move rfl) rfl ?_
    refine y (ev_lss rfl rfl) rfl ?_
    refine ynil' (kthn (hK25 _ _ ?_))
    clear hK25
    refine ccond rfl (fun h126 => ?_) (fun h126 => ?_)
    ·(try simp only [sH] at h126)
     refine cskip' (kthn (hK24 _ _ ?_))
     clear hK24
     refine cseq ?_; intro K26 hK26
     refine cblock ?_
     refine cseq ?_; intro K27 hK27
     refine creg ?_
     refine y (ev_move rfl) rfl ?_
     refine y (ev_move rfl) rfl ?_
     refine ycallF rfl (nFuPut (A := A25) (q := q25) (bs := b9) (bc := b6) (D := D) (C := C) (sl := sl) (sq := (i : Nat)) hF.s.g.ok hsl (by omega)) rfl Tryz.call23 (by repeat first | exact .nil | exact .z | apply Pk.s | apply Tk.cons) rfl ?_
     rintro v L' ⟨sl48, rfl, ok48, rfl⟩
     obtain ⟨e1, hF1⟩ := hF.put (by omega) n30 (by omega) (by omega)
     generalize C.put D (fe i ((i : Nat) + 1)) = r1 at *
     obtain ⟨c1, C1, D1⟩ := r1
     dsimp only at *
     subst e1
     rw [show ((i : Nat) : Int) + 1 = ((i + 1 : Nat) : Int) by omega] at hF1 ⊢
     skip
     ·skip
      refine y (ev_neq rfl rfl) rfl ?_
      refine ynil' (kthn (hK27 _ _ ?_))
      clear hK27
      refine ccond0 rfl ?_
      refine cskip' (kbn (kthn (hK26 _ _ ?_)))
      clear hK26
      refine creg ?_
      refine y (ev_move rfl) rfl ?_
      refine y (ev_add rfl rfl) rfl ?_
      rw [show IntKind.i64.wrap ((i:Int) + 1) = ((i+1 : Nat) : Int) by rw [wr (by omega) (by omega)]; rfl]
      refine y (ev_assign rfl) rfl ?_
      refine ynil' (kthn ?_)
      exact hL1 ((i + 1, C1, D1, sl48)) (⟨by rw [show 200 * (i + 1) + 1 = 200 * i + 1 + 200 by omega]; exact hF1, ok48, by dsimp only; omega⟩) (by dsimp only; omega) _ _ (by repeat first | exact sub_nil | refine sub_cons rfl ?_ | refine sub_cons' rfl (by simp) ?_) (by repeat first | exact .refl | exact .nil | exact .z | apply Pk.s | refine Ge.e ?_ | apply Ge.pick | apply Ge.drop)
    ·(try simp only [sH] at h126)
     refine cexit (kthx (kthx (kbx (kthn ?_))))
     exact ksub (by repeat first | exact sub_nil | refine sub_cons rfl ?_ | refine sub_cons' rfl (by simp) ?_) (by repeat first | exact .refl | exact .nil | exact .z | apply Pk.s | refine Ge.e ?_ | apply Ge.pick | apply Ge.drop) (hJ1 ⟨i, C, D, sl⟩ ⟨hI1o, by dsimp only; omega⟩)
end W
end Go.Proofs
