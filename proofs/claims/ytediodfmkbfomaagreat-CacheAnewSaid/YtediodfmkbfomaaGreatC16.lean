/- A part of the proof: contracts and plain lemmas, each without conditions beyond those that it names. -/
import Derived.Test.YtediodfmkbfomaaGreatC15
set_option linter.unusedVariables false
set_option linter.unusedSimpArgs false
set_option linter.constructorNameAsVariable false
namespace Go.Proofs
open Go Go.Sl
namespace W
set_option linter.unusedVariables false
theorem view_all {C C' : CaM} {D D' : Dev} {m n k k' : Nat} (h : CaS m n k C D) (h' : CaS m n k' C' D') (e : C'.view = C.view) : C'.all = C.all ∧ C'.k = C.k :=
  ⟨all_congr (by rw [h.g.bl, h'.g.bl]) (fun i => congrFun (congrArg CaV.en e) i), congrArg CaV.k e⟩
theorem times_eq {t : Int} (h0 : 0 ≤ t) : ∃ z : Nat, IntKind.i64.wrap (IntKind.i64.wrap (t.tmod 6) + 1) = z ∧ z ≤ 6 := by
  have e : t.tmod 6 = t % 6 := Int.tmod_eq_emod_of_nonneg h0
  have h2 := Int.emod_nonneg t (show (6 : Int) ≠ 0 by decide)
  have h3 := Int.emod_lt_of_pos t (show (0 : Int) < 6 by decide)
  refine ⟨(t % 6 + 1).toNat, ?_, by omega⟩
  rw [e, show IntKind.i64.wrap (t % 6) = t % 6 from wr (by omega) (by omega), wr (by omega) (by omega)]
  omega
theorem lawCAnew [Env] {R : List Seg} {bv tv : Int} {lv : Value} {acts : List ActC} (hb : 0 ≤ bv ∧ bv ≤ 255) (htv : 0 ≤ tv ∧ tv ≤ 255) (hl : RdV R lv acts.length (actcsV acts)) (haa : ∀ a ∈ acts, a.ok R) :
    Con Tryz.prog 6 [.int .u8 bv, lv, .int .u8 tv] [] R (Is (.bool true) []) := by
  have hvl := hl.lenVal
  obtain ⟨tz, htz, htz6⟩ := times_eq htv.1
  refine con_enter Tryz.func6 Tryz.ntmps6 rfl rfl ?_
  refine cseq ?_; intro K1 hK1
  refine creg ?_
  refine y (ev_assign rfl) rfl ?_
  refine ynil' (kthn (hK1 _ _ ?_))
  clear hK1
  refine cseq ?_; intro K2 hK2
  refine cseq ?_; intro K3 hK3
  refine creg ?_
  refine ycall (awake9) rfl Tryz.call11 (by repeat first | exact .nil | exact .z | apply Pk.s | apply Tk.cons) rfl ?_
  rintro v L' ⟨rfl, rfl⟩
  skip
  ·skip
   refine y (ev_not rfl) rfl ?_
   refine ynil' (kthn (hK3 _ _ ?_))
   clear hK3
   refine ccond0 rfl ?_
   refine cskip' (kthn (hK2 _ _ ?_))
   clear hK2
   refine cseq ?_; intro K4 hK4
   refine creg ?_
   refine y (ev_move rfl) rfl ?_
   refine ycall (nOpen9 ?ra203 ?rb203) rfl Tryz.call12 (by repeat first | exact .nil | exact .z | apply Pk.s | apply Tk.cons) rfl ?_
   case ra203 => exact hb.1
   case rb203 => exact hb.2
   rintro v L' ⟨q18, A18, sl18, C18, D18, rfl, hS18, hv18, ok18, rfl⟩
   obtain ⟨n8, n37⟩ := nCa_le bv
   generalize nCa bv = n at *
   generalize C18 = C0 at *
   generalize D18 = D0 at *
   refine y (ev_move rfl) rfl ?_
   refine y (ev_extract rfl rfl) rfl ?_
   refine y (ev_extract rfl rfl) rfl ?_
   refine y (ev_extract rfl rfl) rfl ?_
   refine y (ev_assign rfl) rfl ?_
   refine y (ev_assign rfl) rfl ?_
   refine y (ev_assign rfl) rfl ?_
   refine ynil' (kthn (hK4 _ _ ?_))
   clear hK4
   refine cseq ?_; intro K5 hK5
   refine cseq ?_; intro K6 hK6
   refine creg ?_
   refine y (ev_move rfl) rfl ?_
   skip
   ·skip
    refine y (ev_eqlPnil rfl rfl Tryz.underlying26) rfl ?_
    refine ynil' (kthn (hK6 _ _ ?_))
    clear hK6
    refine ccond0 rfl ?_
    refine cskip' (kthn (hK5 _ _ ?_))
    clear hK5
    refine cseq ?_; intro K7 hK7
    refine cseq ?_; intro K8 hK8
    refine creg ?_
    refine y (ev_assign rfl) rfl ?_
    refine ynil' (kthn (hK8 _ _ ?_))
    clear hK8
    have hJ1 : ∀ x : Nat × CaM × Dev × Sv, ((CaS 32 n (200 * x.1 + 1) x.2.1 x.2.2.1 ∧ itOk x.2.2.2 x.2.1.l ∧ x.1 ≤ acts.length ∧ x.1 ≤ 60) ∧ (True)) → Sk 73 K7 ([(10, i64 x.1), (9, i64 n), (8, ptr A18.p), (7, dp q18), (1, lv), (2, .int .u8 tv)]) ([caP A18 x.2.1, enS A18 x.2.1, puS A18 x.2.1, lgS A18 q18 x.2.2.2 x.2.1, dev q18 x.2.2.1] ++ R) := by
     rintro ⟨i, C, D, sl⟩ ⟨hI1, hX1⟩
     refine hK7 _ _ ?_
     obtain ⟨hS, hsl, hi1, hi2⟩ := hI1; dsimp only at hS hsl hi1 hi2 ⊢; have hal := all_le hS.g.ok; have hbl := hS.g.bl
     refine cseq ?_; intro K9 hK9
     refine cseq ?_; intro K10 hK10
     refine creg ?_
     refine y (ev_assign rfl) rfl ?_
     refine ynil' (kthn (hK10 _ _ ?_))
     clear hK10
     refine cblock ?_
     refine cloop (A := Nat × CaM × Dev) (fun x => [(11, i64 x.1), (9, i64 n), (8, ptr A18.p), (7, dp q18), (2, .int .u8 tv)]) (fun x => [caP A18 C, enS A18 C, dev q18 x.2.2] ++ R) (fun x => CaS 32 n (200 * i + 1 + x.1) x.2.1 x.2.2 ∧ x.2.1.view = C.view ∧ x.1 ≤ 6) (fun x => 6 - x.1) ((0, C, D)) ?_ (by repeat first | exact sub_nil | refine sub_cons rfl ?_ | refine sub_cons' rfl (by simp) ?_) (by repeat first | exact .refl | exact .nil | exact .z | apply Pk.s | refine Ge.e ?_ | apply Ge.pick | apply Ge.drop) ?_
     · exact ⟨hS, rfl, Nat.zero_le _⟩
     rintro ⟨j, C2, D2⟩ hI2 KL2 hL2
     obtain ⟨hS2, hv2, hj⟩ := hI2; dsimp only at hS2 hv2 hj ⊢
     refine cseq ?_; intro K11 hK11
     refine cseq ?_; intro K12 hK12
     refine creg ?_
     refine y (ev_move rfl) rfl ?_
     refine y (ev_move rfl) rfl ?_
     refine y (ev_rem rfl rfl (by decide)) rfl ?_
     refine y (ev_conv rfl Tryz.underlying5 Tryz.underlying3) rfl ?_
     refine y (ev_add rfl rfl) rfl ?_
     rw [htz]
     refine y (ev_lss rfl rfl) rfl ?_
     refine ynil' (kthn (hK12 _ _ ?_))
     clear hK12
     refine ccond rfl (fun h221 => ?_) (fun h221 => ?_)
     ·(try simp only [sH] at h221)
      refine cskip' (kthn (hK11 _ _ ?_))
      clear hK11
      refine cseq ?_; intro K13 hK13
      refine cblock ?_
      refine cseq ?_; intro K14 hK14
      refine creg ?_
      obtain ⟨C3, D3, hop3, hS3, hv3⟩ := hS2.opened (by omega)
      obtain ⟨hva, hvk⟩ := view_all hS hS3 (hv3.trans hv2)
      have hal3 := all_le hS3.g.ok
      have hbl3 := hS3.g.bl
      refine y (ev_move rfl) rfl ?_
      refine y (ev_move rfl) rfl ?_
      refine ycall (kOpenY hS2.g.ok.d (by decide) (by decide) hop3) rfl Tryz.call20 (by repeat first | exact .nil | exact .z | apply Pk.s | apply Tk.cons) rfl ?_
      rintro v L' ⟨A56, sl56, rfl, ok56, rfl⟩
      refine y (ev_move rfl) rfl ?_
      refine y (ev_extract rfl rfl) rfl ?_
      refine y (ev_extract rfl rfl) rfl ?_
      refine y (ev_assign rfl) rfl ?_
      refine y (ev_assign rfl) rfl ?_
      refine ynil' (kthn (hK14 _ _ ?_))
      clear hK14
      refine cseq ?_; intro K15 hK15
      refine creg ?_
      refine y (ev_move rfl) rfl ?_
      skip
      ·skip
       refine y (ev_eqlPnil rfl rfl Tryz.underlying26) rfl ?_
       refine y (ev_move rfl) rfl ?_
       refine yg1 rfl rfl ?_
       refine y (ev_move rfl) rfl ?_
       refine yg1 rfl rfl ?_
       refine y (ev_neq rfl rfl) rfl ?_
       refine y (ev_pick0 rfl rfl) rfl ?_
       refine y (ev_move rfl) rfl ?_
       refine yg1 rfl rfl ?_
       refine y (ev_move rfl) rfl ?_
       refine yg1 rfl rfl ?_
       refine ycall (nTold (A := A56) (C := C3) ?bl238) rfl Tryz.call22 (by repeat first | exact .nil | exact .z | apply Pk.s | apply Tk.cons) rfl ?_
       case bl238 => omega
       rintro v L' ⟨s67, rfl, ok67, rfl⟩
       refine yg1 rfl rfl ?_
       refine y (ev_move rfl) rfl ?_
       refine yg1 rfl rfl ?_
       refine ycall (nTold (A := A18) (C := C) ?bl240) rfl Tryz.call22 (by repeat first | exact .nil | exact .z | apply Pk.s | apply Tk.cons) rfl ?_
       case bl240 => omega
       rintro v L' ⟨s69, rfl, ok69, rfl⟩
       refine yg1 rfl rfl ?_
       refine ycall (nAlike (u1 := C3.all) (u2 := C.all) (k1 := C3.k) (k2 := C.k) ?ia241 ?ib241 ?ic241 ?id241) rfl Tryz.call21 (by repeat first | exact .nil | exact .z | apply Pk.s | apply Tk.cons) rfl ?_
       case ia241 => exact rdV_sv (by repeat first | exact .z | apply In.s) ok67
       case ib241 => exact rdV_sv (by repeat first | exact .z | apply In.s) ok69
       case ic241 => omega
       case id241 => omega
       rintro v L' ⟨rfl, rfl⟩
       rw [show decide (C3.all = C.all ∧ C3.k = C.k) = true from decide_eq_true ⟨hva, hvk⟩]
       refine yg1 rfl rfl ?_
       refine y (ev_not rfl) rfl ?_
       refine y (ev_pick0 rfl rfl) rfl ?_
       refine ynil' (kthn (hK15 _ _ ?_))
       clear hK15
       refine ccond0 rfl ?_
       refine cskip' (kbn (kthn (hK13 _ _ ?_)))
       clear hK13
       refine creg ?_
       refine y (ev_move rfl) rfl ?_
       refine y (ev_add rfl rfl) rfl ?_
       rw [show IntKind.i64.wrap ((j:Int) + 1) = ((j+1 : Nat) : Int) by rw [wr (by omega) (by omega)]; rfl]
       refine y (ev_assign rfl) rfl ?_
       refine ynil' (kthn ?_)
       exact hL2 ((j + 1, C3, D3)) (⟨hS3, hv3.trans hv2, by dsimp only; omega⟩) (by dsimp only; omega) _ _ (by repeat first | exact sub_nil | refine sub_cons rfl ?_ | refine sub_cons' rfl (by simp) ?_) (by repeat first | exact .refl | exact .nil | exact .z | apply Pk.s | refine Ge.e ?_ | apply Ge.pick | apply Ge.drop)
     ·(try simp only [sH] at h221)
      refine cexit (kthx (kthx (kbx (kthn (hK9 _ _ ?_)))))
      clear hK9
      refine cseq ?_; intro K16 hK16
      refine creg ?_
      refine y (ev_assign rfl) rfl ?_
      refine ynil' (kthn (hK16 _ _ ?_))
      clear hK16
      refine cret ?_
      first
        | (exfalso; omega; done)
        | (refine kretv Tryz.results6 rfl (L1 := R) (by repeat first | exact .refl | exact .nil | exact .z | apply Pk.s | refine Ge.e ?_ | apply Ge.pick | apply Ge.drop) ?_
           exact ⟨_, ⟨by first | rfl | (exfalso; omega; done), rfl⟩, by first | rfl | (exfalso; omega; done)⟩)
    clear hK7
    refine cblock ?_
    refine cloop (A := Nat × CaM × Dev × Sv) (fun x => [(10, i64 x.1), (9, i64 n), (8, ptr A18.p), (7, dp q18), (1, lv), (2, .int .u8 tv)]) (fun x => [caP A18 x.2.1, enS A18 x.2.1, puS A18 x.2.1, lgS A18 q18 x.2.2.2 x.2.1, dev q18 x.2.2.1] ++ R) (fun x => CaS 32 n (200 * x.1 + 1) x.2.1 x.2.2.1 ∧ itOk x.2.2.2 x.2.1.l ∧ x.1 ≤ acts.length ∧ x.1 ≤ 60) (fun x => 60 - x.1) ((0, C0, D0, sl18)) ?_ (by repeat first | exact sub_nil | refine sub_cons rfl ?_ | refine sub_cons' rfl (by simp) ?_) (by repeat first | exact .refl | exact .nil | exact .z | apply Pk.s | refine Ge.e ?_ | apply Ge.pick | apply Ge.drop) ?_
    · exact ⟨hS18, ok18, Nat.zero_le _, Nat.zero_le _⟩
    rintro ⟨i, C, D, sl⟩ hI1 KL1 hL1
    have hI1o := hI1
    obtain ⟨hS, hsl, hi1, hi2⟩ := hI1; dsimp only at hS hsl hi1 hi2 ⊢; have hal := all_le hS.g.ok; have hbl := hS.g.bl
    refine cseq ?_; intro K17 hK17
    refine cseq ?_; intro K18 hK18
    refine creg ?_
    refine y (ev_move rfl) rfl ?_
    refine y (ev_move rfl) rfl ?_
    first
      | refine y (ev_len rfl Tryz.underlying55) rfl ?_
      | refine y (ev_lenSv rfl Tryz.underlying55 (by assumption)) rfl ?_
      | refine y (ev_lenV rfl Tryz.underlying55 (RdV.lenVal (by assumption))) rfl ?_
      | refine y (ev_lenV rfl Tryz.underlying55 (RdB.lenVal (by assumption))) rfl ?_
    refine y (ev_lss rfl rfl) rfl ?_
    refine y (ev_move rfl) rfl ?_
    refine ysplit 28 rfl (fun h253 => ?_) (fun h253 => ?_)
    ·(try simp only [sH] at h253)
     refine yg1 rfl rfl ?_
     refine y (ev_move rfl) rfl ?_
     refine yg1 rfl rfl ?_
     refine y (ev_lss rfl rfl) rfl ?_
     refine y (ev_pick1 rfl rfl) rfl ?_
     refine ynil' (kthn (hK18 _ _ ?_))
     clear hK18
     refine ccond rfl (fun h257 => ?_) (fun h257 => ?_)
     ·(try simp only [sH] at h257)
      refine cskip' (kthn (hK17 _ _ ?_))
      clear hK17
      refine cseq ?_; intro K19 hK19
      refine cblock ?_
      refine cseq ?_; intro K20 hK20
      refine cseq ?_; intro K21 hK21
      refine creg ?_
      obtain ⟨yy, hy⟩ : ∃ yy, acts[i]? = some yy := ⟨_, List.getElem?_eq_getElem (by omega)⟩
      have hact := haa yy (List.mem_of_getElem? hy)
      refine y (ev_move rfl) rfl ?_
      refine y (ev_move rfl) rfl ?_
      refine y (ev_ixV hl rfl rfl Tryz.underlying55 Tryz.sizeOf59 (by omega) (by omega)) rfl ?_
      refine y (ev_loadNV (us := yy.cells) (i * 12) hl (by repeat first | exact .refl | exact .nil | exact .z | apply Pk.s | refine Ge.e ?_ | apply Ge.pick | apply Ge.drop) rfl Tryz.isAgg59 Tryz.sizeOf59 (by simp) (actcsV_get hy) rfl) rfl ?_
      refine ycall (nLarge9 ?lx262) rfl Tryz.call24 (by repeat first | exact .nil | exact .z | apply Pk.s | apply Tk.cons) rfl ?_
      case lx262 => exact hact.mono (by repeat first | exact .refl | exact .nil | exact .z | apply Pk.s | refine Ge.e ?_ | apply Ge.pick | apply Ge.drop)
      rintro v L' ⟨big38, rfl, hbig38, rfl⟩
      refine ynil' (kthn (hK21 _ _ ?_))
      clear hK21
      refine ccond rfl (fun h263 => ?_) (fun h263 => ?_)
      ·(try simp only [sH] at h263)
       refine cseq ?_; intro K22 hK22
       refine creg ?_
       refine y (ev_assign rfl) rfl ?_
       refine ynil' (kthn (hK22 _ _ ?_))
       clear hK22
       refine cret (kthr (kbr (kthr (kthr (kbr (kthr ?_))))))
       first
         | (exfalso; omega; done)
         | (refine kretv Tryz.results6 rfl (L1 := R) (by repeat first | exact .refl | exact .nil | exact .z | apply Pk.s | refine Ge.e ?_ | apply Ge.pick | apply Ge.drop) ?_
            exact ⟨_, ⟨by first | rfl | (exfalso; omega; done), rfl⟩, by first | rfl | (exfalso; omega; done)⟩)
      ·(try simp only [sH] at h263)
       have hlg := hbig38 h263
       refine cskip' (kthn (hK20 _ _ ?_))
       clear hK20
       refine creg ?_
       refine y (ev_move rfl) rfl ?_
       refine y (ev_move rfl) rfl ?_
       refine y (ev_move rfl) rfl ?_
       refine y (ev_ixV hl rfl rfl Tryz.underlying55 Tryz.sizeOf59 (by omega) (by omega)) rfl ?_
       refine y (ev_loadNV (us := yy.cells) (i * 12) hl (by repeat first | exact .refl | exact .nil | exact .z | apply Pk.s | refine Ge.e ?_ | apply Ge.pick | apply Ge.drop) rfl Tryz.isAgg59 Tryz.sizeOf59 (by simp) (actcsV_get hy) rfl) rfl ?_
       refine ycall (nDo (C := C) (sl := sl) (q := q18) (D := D) (a := yy) ?cok270 ?its270 ?lx270 ?lt270) rfl Tryz.call25 (by repeat first | exact .nil | exact .z | apply Pk.s | apply Tk.cons) rfl ?_
       case cok270 => exact hS.g.ok
       case its270 => exact hsl
       case lx270 => exact hact.mono (by repeat first | exact .refl | exact .nil | exact .z | apply Pk.s | refine Ge.e ?_ | apply Ge.pick | apply Ge.drop)
       case lt270 => omega
       rintro v L' ⟨sl44, rfl, ok44, rfl⟩
       obtain ⟨hdid, hcode⟩ := hS.doM (by omega) (by omega) yy.kind yy.x yy.ts
       generalize doM C D yy.kind yy.x yy.ts = r at *
       obtain ⟨er, C', D'⟩ := r
       dsimp only at *
       have hS' := hdid.s
       dsimp only at hS'
       refine ynil' (kbn (kthn (hK19 _ _ ?_)))
       clear hK19
       refine creg ?_
       refine y (ev_move rfl) rfl ?_
       refine y (ev_add rfl rfl) rfl ?_
       rw [show IntKind.i64.wrap ((i:Int) + 1) = ((i+1 : Nat) : Int) by rw [wr (by omega) (by omega)]; rfl]
       refine y (ev_assign rfl) rfl ?_
       refine ynil' (kthn ?_)
       exact hL1 ((i + 1, C', D', sl44)) (⟨hS'.le (by omega), ok44, by dsimp only; omega, by dsimp only; omega⟩) (by dsimp only; omega) _ _ (by repeat first | exact sub_nil | refine sub_cons rfl ?_ | refine sub_cons' rfl (by simp) ?_) (by repeat first | exact .refl | exact .nil | exact .z | apply Pk.s | refine Ge.e ?_ | apply Ge.pick | apply Ge.drop)
     ·(try simp only [sH] at h257)
      refine cexit (kthx (kthx (kbx (kthn ?_))))
      exact ksub (by repeat first | exact sub_nil | refine sub_cons rfl ?_ | refine sub_cons' rfl (by simp) ?_) (by repeat first | exact .refl | exact .nil | exact .z | apply Pk.s | refine Ge.e ?_ | apply Ge.pick | apply Ge.drop) (hJ1 ⟨i, C, D, sl⟩ ⟨hI1o, by first | trivial | omega⟩)
    ·(try simp only [sH] at h253)
     refine yg0 rfl rfl rfl rfl ?_
     refine yg0 rfl rfl rfl rfl ?_
     refine y (ev_pick0 rfl rfl) rfl ?_
     refine ynil' (kthn (hK18 _ _ ?_))
     clear hK18
     refine ccond0 rfl ?_
     refine cexit (kthx (kthx (kbx (kthn ?_))))
     exact ksub (by repeat first | exact sub_nil | refine sub_cons rfl ?_ | refine sub_cons' rfl (by simp) ?_) (by repeat first | exact .refl | exact .nil | exact .z | apply Pk.s | refine Ge.e ?_ | apply Ge.pick | apply Ge.drop) (hJ1 ⟨i, C, D, sl⟩ ⟨hI1o, by first | trivial | omega⟩)
end W
end Go.Proofs
