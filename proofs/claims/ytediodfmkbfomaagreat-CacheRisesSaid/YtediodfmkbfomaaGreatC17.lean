/- A part of the proof: contracts and plain lemmas, each without conditions beyond those that it names. -/
import Derived.Test.YtediodfmkbfomaaGreatC15
import Derived.Test.YtediodfmkbfomaaGreatCacN
set_option linter.unusedVariables false
set_option linter.unusedSimpArgs false
set_option linter.constructorNameAsVariable false
namespace Go.Proofs
open Go Go.Sl
namespace W
set_option linter.unusedVariables false
theorem told_one' (s : Sv) (m : Nat) (a b c d e f : Int) : ∀ u ∈ [svVal s m, i64 a, i64 b, i64 c, i64 d, i64 e, i64 f], u.oneCell' = true := by
  intro u hu
  simp only [List.mem_cons, List.not_mem_nil, or_false] at hu
  rcases hu with rfl | rfl | rfl | rfl | rfl | rfl | rfl
  · exact svVal_one _ _
  all_goals rfl
abbrev toldM (s : Sv) (C : CaM) : List Value := [svVal s C.all.length, i64 C.k.e, i64 C.k.s, i64 C.k.t.a, i64 C.k.t.b, i64 C.k.t.c, i64 C.k.t.d]
theorem lawCRises [Env] {R : List Seg} {bv : Int} {lv : Value} {acts : List ActC} (hb : 0 ≤ bv ∧ bv ≤ 255) (hl : RdV R lv acts.length (actcsV acts)) (haa : ∀ a ∈ acts, a.ok R) :
    Con Tryz.prog 7 [.int .u8 bv, lv] [] R (Is (.bool true) []) := by
  have hvl := hl.lenVal
  refine con_enter Tryz.func7 Tryz.ntmps7 rfl rfl ?_
  refine cseq ?_; intro K1 hK1
  refine creg ?_
  refine y (ev_assign rfl) rfl ?_
  refine ynil' (kthn (hK1 _ _ ?_))
  clear hK1
  refine cseq ?_; intro K2 hK2
  refine cseq ?_; intro K3 hK3
  refine creg ?_
  refine ycall (awake9) rfl Tryz.call11 (by repeat first | exact .nil | exact .z | apply Pk.s | apply Tk.cons) rfl ?_
  rintro v L' ⟨rfl, rfl⟩
  skip
  ·skip
   refine y (ev_not rfl) rfl ?_
   refine ynil' (kthn (hK3 _ _ ?_))
   clear hK3
   refine ccond0 rfl ?_
   refine cskip' (kthn (hK2 _ _ ?_))
   clear hK2
   refine cseq ?_; intro K4 hK4
   refine creg ?_
   refine y (ev_move rfl) rfl ?_
   refine ycall (nOpen9 ?ra5 ?rb5) rfl Tryz.call12 (by repeat first | exact .nil | exact .z | apply Pk.s | apply Tk.cons) rfl ?_
   case ra5 => exact hb.1
   case rb5 => exact hb.2
   rintro v L' ⟨q17, A17, sl17, C17, D17, rfl, hS17, hv17, ok17, rfl⟩
   obtain ⟨n8, n37⟩ := nCa_le bv
   generalize nCa bv = n at *
   generalize C17 = C0 at *
   generalize D17 = D0 at *
   have hbl0 := hS17.g.bl
   have hlo0 : LowE (aget C0.en) C0.k := by rw [show aget C0.en = fun _ => none from congrArg CaV.en hv17]; exact fun i y hy => by cases hy
   refine y (ev_move rfl) rfl ?_
   refine y (ev_extract rfl rfl) rfl ?_
   refine y (ev_extract rfl rfl) rfl ?_
   refine y (ev_extract rfl rfl) rfl ?_
   refine y (ev_assign rfl) rfl ?_
   refine y (ev_assign rfl) rfl ?_
   refine y (ev_assign rfl) rfl ?_
   refine ynil' (kthn (hK4 _ _ ?_))
   clear hK4
   refine cseq ?_; intro K5 hK5
   refine cseq ?_; intro K6 hK6
   refine creg ?_
   refine y (ev_move rfl) rfl ?_
   skip
   ·skip
    refine y (ev_eqlPnil rfl rfl Tryz.underlying26) rfl ?_
    refine ynil' (kthn (hK6 _ _ ?_))
    clear hK6
    refine ccond0 rfl ?_
    refine cskip' (kthn (hK5 _ _ ?_))
    clear hK5
    refine cseq ?_; intro K7 hK7
    refine creg ?_
    refine y (ev_move rfl) rfl ?_
    refine ycall (nTold (C := C0) ?bl16) rfl Tryz.call22 (by repeat first | exact .nil | exact .z | apply Pk.s | apply Tk.cons) rfl ?_
    case bl16 => omega
    rintro v L' ⟨s24, rfl, ok24, rfl⟩
    refine ya (ac_alloc Tryz.zeroValue50 rfl) rfl ?_
    rintro v L' ⟨b8, rfl, rfl⟩
    refine ya0 (ac_storeAll rfl rfl (told_one' _ _ _ _ _ _ _ _) Tryz.sizeOf50 (by repeat first | exact .z | apply Rp.s) rfl rfl) ?_
    rintro v L' ⟨rfl, rfl⟩
    refine ynil' (kthn (hK7 _ _ ?_))
    clear hK7
    refine cseq ?_; intro K8 hK8
    refine cseq ?_; intro K9 hK9
    refine creg ?_
    refine y (ev_assign rfl) rfl ?_
    refine ynil' (kthn (hK9 _ _ ?_))
    clear hK9
    have hJ1 : ∀ x : Nat × CaM × Dev × Sv × Value, ((CaS 32 n (200 * x.1 + 1) x.2.1 x.2.2.1 ∧ itOk x.2.2.2.1 x.2.1.l ∧ LowE (aget x.2.1.en) x.2.1.k ∧ x.1 ≤ acts.length ∧ x.1 ≤ 60) ∧ (True)) → Sk 89 K8 ([(9, i64 x.1), (8, ptr b8), (6, ptr A17.p), (1, lv)]) ([sc b8 [x.2.2.2.2, i64 x.2.1.k.e, i64 x.2.1.k.s, i64 x.2.1.k.t.a, i64 x.2.1.k.t.b, i64 x.2.1.k.t.c, i64 x.2.1.k.t.d] 50, caP A17 x.2.1, enS A17 x.2.1, puS A17 x.2.1, lgS A17 q17 x.2.2.2.1 x.2.1, dev q17 x.2.2.1] ++ R) := by
     rintro ⟨i, C, D, sl, va⟩ ⟨hI1, hX1⟩
     refine hK8 _ _ ?_
     obtain ⟨hS, hsl, hlo, hi1, hi2⟩ := hI1; dsimp only at hS hsl hlo hi1 hi2 ⊢; have hal := all_le hS.g.ok; have hbl := hS.g.bl
     refine cseq ?_; intro K10 hK10
     refine creg ?_
     refine y (ev_assign rfl) rfl ?_
     refine ynil' (kthn (hK10 _ _ ?_))
     clear hK10
     refine cret ?_
     first
       | (exfalso; omega; done)
       | (refine kretv Tryz.results7 rfl (L1 := R) (by repeat first | exact .refl | exact .nil | exact .z | apply Pk.s | refine Ge.e ?_ | apply Ge.pick | apply Ge.drop) ?_
          exact ⟨_, ⟨by first | rfl | (exfalso; omega; done), rfl⟩, by first | rfl | (exfalso; omega; done)⟩)
    clear hK8
    refine cblock ?_
    refine cloop (A := Nat × CaM × Dev × Sv × Value) (fun x => [(9, i64 x.1), (8, ptr b8), (6, ptr A17.p), (1, lv)]) (fun x => [sc b8 [x.2.2.2.2, i64 x.2.1.k.e, i64 x.2.1.k.s, i64 x.2.1.k.t.a, i64 x.2.1.k.t.b, i64 x.2.1.k.t.c, i64 x.2.1.k.t.d] 50, caP A17 x.2.1, enS A17 x.2.1, puS A17 x.2.1, lgS A17 q17 x.2.2.2.1 x.2.1, dev q17 x.2.2.1] ++ R) (fun x => CaS 32 n (200 * x.1 + 1) x.2.1 x.2.2.1 ∧ itOk x.2.2.2.1 x.2.1.l ∧ LowE (aget x.2.1.en) x.2.1.k ∧ x.1 ≤ acts.length ∧ x.1 ≤ 60) (fun x => 60 - x.1) ((0, C0, D0, sl17, svVal s24 C0.all.length)) ?_ (by repeat first | exact sub_nil | refine sub_cons rfl ?_ | refine sub_cons' rfl (by simp) ?_) (by repeat first | exact .refl | exact .nil | exact .z | apply Pk.s | refine Ge.e ?_ | apply Ge.pick | apply Ge.drop) ?_
    · exact ⟨hS17, ok17, hlo0, Nat.zero_le _, Nat.zero_le _⟩
    rintro ⟨i, C, D, sl, va⟩ hI1 KL1 hL1
    have hI1o := hI1
    obtain ⟨hS, hsl, hlo, hi1, hi2⟩ := hI1; dsimp only at hS hsl hlo hi1 hi2 ⊢; have hal := all_le hS.g.ok; have hbl := hS.g.bl
    refine cseq ?_; intro K11 hK11
    refine cseq ?_; intro K12 hK12
    refine creg ?_
    refine y (ev_move rfl) rfl ?_
    refine y (ev_move rfl) rfl ?_
    first
      | refine y (ev_len rfl Tryz.underlying55) rfl ?_
      | refine y (ev_lenSv rfl Tryz.underlying55 (by assumption)) rfl ?_
      | refine y (ev_lenV rfl Tryz.underlying55 (RdV.lenVal (by assumption))) rfl ?_
      | refine y (ev_lenV rfl Tryz.underlying55 (RdB.lenVal (by assumption))) rfl ?_
    refine y (ev_lss rfl rfl) rfl ?_
    refine y (ev_move rfl) rfl ?_
    refine ysplit 29 rfl (fun h26 => ?_) (fun h26 => ?_)
    ·(try simp only [sH] at h26)
     refine yg1 rfl rfl ?_
     refine y (ev_move rfl) rfl ?_
     refine yg1 rfl rfl ?_
     refine y (ev_lss rfl rfl) rfl ?_
     refine y (ev_pick1 rfl rfl) rfl ?_
     refine ynil' (kthn (hK12 _ _ ?_))
     clear hK12
     refine ccond rfl (fun h30 => ?_) (fun h30 => ?_)
     ·(try simp only [sH] at h30)
      refine cskip' (kthn (hK11 _ _ ?_))
      clear hK11
      refine cseq ?_; intro K13 hK13
      refine cblock ?_
      refine cseq ?_; intro K14 hK14
      refine cseq ?_; intro K15 hK15
      refine creg ?_
      obtain ⟨yy, hy⟩ : ∃ yy, acts[i]? = some yy := ⟨_, List.getElem?_eq_getElem (by omega)⟩
      have hact := haa yy (List.mem_of_getElem? hy)
      refine y (ev_move rfl) rfl ?_
      refine y (ev_move rfl) rfl ?_
      refine y (ev_ixV hl rfl rfl Tryz.underlying55 Tryz.sizeOf59 (by omega) (by omega)) rfl ?_
      refine y (ev_loadNV (us := yy.cells) (i * 12) hl (by repeat first | exact .refl | exact .nil | exact .z | apply Pk.s | refine Ge.e ?_ | apply Ge.pick | apply Ge.drop) rfl Tryz.isAgg59 Tryz.sizeOf59 (by simp) (actcsV_get hy) rfl) rfl ?_
      refine ycall (nLarge9 ?lx35) rfl Tryz.call24 (by repeat first | exact .nil | exact .z | apply Pk.s | apply Tk.cons) rfl ?_
      case lx35 => exact hact.mono (by repeat first | exact .refl | exact .nil | exact .z | apply Pk.s | refine Ge.e ?_ | apply Ge.pick | apply Ge.drop)
      rintro v L' ⟨big39, rfl, hbig39, rfl⟩
      refine ynil' (kthn (hK15 _ _ ?_))
      clear hK15
      refine ccond rfl (fun h36 => ?_) (fun h36 => ?_)
      ·(try simp only [sH] at h36)
       refine cseq ?_; intro K16 hK16
       refine creg ?_
       refine y (ev_assign rfl) rfl ?_
       refine ynil' (kthn (hK16 _ _ ?_))
       clear hK16
       refine cret (kthr (kbr (kthr (kthr (kbr (kthr ?_))))))
       first
         | (exfalso; omega; done)
         | (refine kretv Tryz.results7 rfl (L1 := R) (by repeat first | exact .refl | exact .nil | exact .z | apply Pk.s | refine Ge.e ?_ | apply Ge.pick | apply Ge.drop) ?_
            exact ⟨_, ⟨by first | rfl | (exfalso; omega; done), rfl⟩, by first | rfl | (exfalso; omega; done)⟩)
      ·(try simp only [sH] at h36)
       have hlg := hbig39 h36
       refine cskip' (kthn (hK14 _ _ ?_))
       clear hK14
       refine cseq ?_; intro K17 hK17
       refine cseq ?_; intro K18 hK18
       refine creg ?_
       refine y (ev_move rfl) rfl ?_
       refine y (ev_move rfl) rfl ?_
       refine y (ev_ixV hl rfl rfl Tryz.underlying55 Tryz.sizeOf59 (by omega) (by omega)) rfl ?_
       refine y (ev_fieldAddr 0 rfl Tryz.underlying59 rfl Tryz.sizeOf3) rfl ?_
       refine y (ev_loadV (i * 12) hl (by repeat first | exact .refl | exact .nil | exact .z | apply Pk.s | refine Ge.e ?_ | apply Ge.pick | apply Ge.drop) rfl Tryz.isAgg3 (by simp) (actcsV_kind hy)) rfl ?_
       refine y (ev_eql rfl rfl) rfl ?_
       refine ynil' (kthn (hK18 _ _ ?_))
       clear hK18
       refine ccond rfl (fun h44 => ?_) (fun h44 => ?_)
       ·(try simp only [sH] at h44)
        refine cexit (kthx (kbx (kthn (hK13 _ _ ?_))))
        clear hK13
        refine creg ?_
        refine y (ev_move rfl) rfl ?_
        refine y (ev_add rfl rfl) rfl ?_
        rw [show IntKind.i64.wrap ((i:Int) + 1) = ((i+1 : Nat) : Int) by rw [wr (by omega) (by omega)]; rfl]
        refine y (ev_assign rfl) rfl ?_
        refine ynil' (kthn ?_)
        first | exact hL1 (i + 1, C', D', sl51, svVal s53 C'.all.length) ⟨hS'.le (by omega), ok51, hri.low, by dsimp only; omega, by dsimp only; omega⟩ (by dsimp only; omega) _ _ (by repeat first | exact sub_nil | refine sub_cons rfl ?_ | refine sub_cons' rfl (by simp) ?_) (by repeat first | exact .refl | exact .nil | exact .z | apply Pk.s | refine Ge.e ?_ | apply Ge.pick | apply Ge.drop) | exact hL1 (i + 1, C, D, sl, va) ⟨hS.le (by omega), hsl, hlo, by dsimp only; omega, by dsimp only; omega⟩ (by dsimp only; omega) _ _ (by repeat first | exact sub_nil | refine sub_cons rfl ?_ | refine sub_cons' rfl (by simp) ?_) (by repeat first | exact .refl | exact .nil | exact .z | apply Pk.s | refine Ge.e ?_ | apply Ge.pick | apply Ge.drop)
       ·(try simp only [sH] at h44)
        refine cskip' (kthn (hK17 _ _ ?_))
        clear hK17
        refine cseq ?_; intro K19 hK19
        refine creg ?_
        refine y (ev_move rfl) rfl ?_
        refine y (ev_move rfl) rfl ?_
        refine y (ev_move rfl) rfl ?_
        refine y (ev_ixV hl rfl rfl Tryz.underlying55 Tryz.sizeOf59 (by omega) (by omega)) rfl ?_
        refine y (ev_loadNV (us := yy.cells) (i * 12) hl (by repeat first | exact .refl | exact .nil | exact .z | apply Pk.s | refine Ge.e ?_ | apply Ge.pick | apply Ge.drop) rfl Tryz.isAgg59 Tryz.sizeOf59 (by simp) (actcsV_get hy) rfl) rfl ?_
        refine ycall (nDo (C := C) (sl := sl) (q := q17) (D := D) (a := yy) ?cok53 ?its53 ?lx53 ?lt53) rfl Tryz.call25 (by repeat first | exact .nil | exact .z | apply Pk.s | apply Tk.cons) rfl ?_
        case cok53 => exact hS.g.ok
        case its53 => exact hsl
        case lx53 => exact hact.mono (by repeat first | exact .refl | exact .nil | exact .z | apply Pk.s | refine Ge.e ?_ | apply Ge.pick | apply Ge.drop)
        case lt53 => omega
        rintro v L' ⟨sl51, rfl, ok51, rfl⟩
        obtain ⟨hdid, hcode⟩ := hS.doM (by omega) (by omega) yy.kind yy.x yy.ts
        have hri := hS.rises (by omega) (by omega) hlo yy.kind yy.x yy.ts ‹_›
        generalize doM C D yy.kind yy.x yy.ts = r at *
        obtain ⟨er, C', D'⟩ := r
        dsimp only at *
        have hS' := hdid.s
        dsimp only at hS'
        have hal' := all_le hS'.g.ok
        have hbl' := hS'.g.bl
        refine ynil' (kthn (hK19 _ _ ?_))
        clear hK19
        refine cseq ?_; intro K20 hK20
        refine creg ?_
        refine y (ev_move rfl) rfl ?_
        refine ycall (nTold (C := C') ?bl55) rfl Tryz.call22 (by repeat first | exact .nil | exact .z | apply Pk.s | apply Tk.cons) rfl ?_
        case bl55 => omega
        rintro v L' ⟨s53, rfl, ok53, rfl⟩
        refine ya (ac_alloc Tryz.zeroValue50 rfl) rfl ?_
        rintro v L' ⟨b10, rfl, rfl⟩
        refine ya0 (ac_storeAll rfl rfl (told_one' _ _ _ _ _ _ _ _) Tryz.sizeOf50 (by repeat first | exact .z | apply Rp.s) rfl rfl) ?_
        rintro v L' ⟨rfl, rfl⟩
        refine ynil' (kthn (hK20 _ _ ?_))
        clear hK20
        refine cseq ?_; intro K21 hK21
        refine cseq ?_; intro K22 hK22
        refine creg ?_
        refine y (ev_fieldAddr 1 rfl Tryz.underlying50 rfl Tryz.sizeOf31) rfl ?_
        refine y (ev_loadN (u := [i64 C.k.e, i64 C.k.s]) rfl Tryz.isAgg31 Tryz.sizeOf31 (by repeat first | exact .z | apply In.s) rfl rfl) rfl ?_
        refine y (ev_fieldAddr 1 rfl Tryz.underlying50 rfl Tryz.sizeOf31) rfl ?_
        refine y (ev_loadN (u := [i64 C'.k.e, i64 C'.k.s]) rfl Tryz.isAgg31 Tryz.sizeOf31 (by repeat first | exact .z | apply In.s) rfl rfl) rfl ?_
        skip
        ·skip
         refine ycall (nAbove) rfl Tryz.call26 (by repeat first | exact .nil | exact .z | apply Pk.s | apply Tk.cons) rfl ?_
         rintro v L' ⟨rfl, rfl⟩
         rw [hri.last]
         refine ynil' (kthn (hK22 _ _ ?_))
         clear hK22
         refine ccond0 rfl ?_
         refine cskip' (kthn (hK21 _ _ ?_))
         clear hK21
         refine cseq ?_; intro K23 hK23
         refine cseq ?_; intro K24 hK24
         refine creg ?_
         refine y (ev_move rfl) rfl ?_
         refine ynil' (kthn (hK24 _ _ ?_))
         clear hK24
         have hJ2 : ∀ x : Nat, ((x ≤ 4) ∧ (True)) → Sk 89 K23 ([(59, i64 x), (10, ptr b10), (9, i64 i), (8, ptr b8), (6, ptr A17.p), (1, lv)]) ([sc b10 (toldM s53 C') 50, svSeg s53 34 (entsV C'.all), sc b8 [va, i64 C.k.e, i64 C.k.s, i64 C.k.t.a, i64 C.k.t.b, i64 C.k.t.c, i64 C.k.t.d] 50, caP A17 C', enS A17 C', puS A17 C', lgS A17 q17 sl51 C', dev q17 D'] ++ R) := by
          rintro j ⟨hI2, hX2⟩
          refine hK23 _ _ ?_
          have hj := hI2
          refine cseq ?_; intro K25 hK25
          refine cseq ?_; intro K26 hK26
          refine creg ?_
          refine y (ev_fieldAddr 0 rfl Tryz.underlying50 rfl Tryz.sizeOf41) rfl ?_
          refine y (ev_load rfl Tryz.isAgg41 (by repeat first | exact .z | apply In.s) rfl) rfl ?_
          first
            | refine y (ev_len rfl Tryz.underlying41) rfl ?_
            | refine y (ev_lenSv rfl Tryz.underlying41 (by assumption)) rfl ?_
            | refine y (ev_lenV rfl Tryz.underlying41 (RdV.lenVal (by assumption))) rfl ?_
            | refine y (ev_lenV rfl Tryz.underlying41 (RdB.lenVal (by assumption))) rfl ?_
          refine y (ev_move rfl) rfl ?_
          refine ynil' (kthn (hK26 _ _ ?_))
          clear hK26
          have hJ3 : ∀ x : Nat, ((x ≤ C'.all.length) ∧ (True)) → Sk 89 K25 ([(75, i64 x), (74, i64 C'.all.length), (10, ptr b10), (9, i64 i), (8, ptr b8), (6, ptr A17.p), (1, lv)]) ([sc b10 (toldM s53 C') 50, svSeg s53 34 (entsV C'.all), sc b8 [va, i64 C.k.e, i64 C.k.s, i64 C.k.t.a, i64 C.k.t.b, i64 C.k.t.c, i64 C.k.t.d] 50, caP A17 C', enS A17 C', puS A17 C', lgS A17 q17 sl51 C', dev q17 D'] ++ R) := by
           rintro j ⟨hI3, hX3⟩
           refine hK25 _ _ ?_
           have hj := hI3; have hv53 : RdV [svSeg s53 34 (entsV C'.all)] (svVal s53 C'.all.length) C'.all.length (entsV C'.all) := rdV_sv .z ok53
           refine creg ?_
           refine y (ev_loadN (u := toldM s53 C') rfl Tryz.isAgg50 Tryz.sizeOf50 (by repeat first | exact .z | apply In.s) rfl rfl) rfl ?_
           refine ya0 (ac_storeAll rfl rfl (told_one' _ _ _ _ _ _ _ _) Tryz.sizeOf50 (by repeat first | exact .z | apply Rp.s) rfl rfl) ?_
           rintro v L' ⟨rfl, rfl⟩
           refine ynil' (kbn (kthn (hK13 _ _ ?_)))
           clear hK13
           refine creg ?_
           refine y (ev_move rfl) rfl ?_
           refine y (ev_add rfl rfl) rfl ?_
           rw [show IntKind.i64.wrap ((i:Int) + 1) = ((i+1 : Nat) : Int) by rw [wr (by omega) (by omega)]; rfl]
           refine y (ev_assign rfl) rfl ?_
           refine ynil' (kthn ?_)
           first | exact hL1 (i + 1, C', D', sl51, svVal s53 C'.all.length) ⟨hS'.le (by omega), ok51, hri.low, by dsimp only; omega, by dsimp only; omega⟩ (by dsimp only; omega) _ _ (by repeat first | exact sub_nil | refine sub_cons rfl ?_ | refine sub_cons' rfl (by simp) ?_) (by repeat first | exact .refl | exact .nil | exact .z | apply Pk.s | refine Ge.e ?_ | apply Ge.pick | apply Ge.drop) | exact hL1 (i + 1, C, D, sl, va) ⟨hS.le (by omega), hsl, hlo, by dsimp only; omega, by dsimp only; omega⟩ (by dsimp only; omega) _ _ (by repeat first | exact sub_nil | refine sub_cons rfl ?_ | refine sub_cons' rfl (by simp) ?_) (by repeat first | exact .refl | exact .nil | exact .z | apply Pk.s | refine Ge.e ?_ | apply Ge.pick | apply Ge.drop)
          clear hK25
          refine cblock ?_
          refine cloop (A := Nat) (fun x => [(75, i64 x), (74, i64 C'.all.length), (10, ptr b10), (9, i64 i), (8, ptr b8), (6, ptr A17.p), (1, lv)]) (fun x => [sc b10 (toldM s53 C') 50, svSeg s53 34 (entsV C'.all), sc b8 [va, i64 C.k.e, i64 C.k.s, i64 C.k.t.a, i64 C.k.t.b, i64 C.k.t.c, i64 C.k.t.d] 50, caP A17 C', enS A17 C', puS A17 C', lgS A17 q17 sl51 C', dev q17 D'] ++ R) (fun x => x ≤ C'.all.length) (fun x => C'.all.length - x) (0) ?_ (by repeat first | exact sub_nil | refine sub_cons rfl ?_ | refine sub_cons' rfl (by simp) ?_) (by repeat first | exact .refl | exact .nil | exact .z | apply Pk.s | refine Ge.e ?_ | apply Ge.pick | apply Ge.drop) ?_
          · exact Nat.zero_le _
          rintro j hI3 KL3 hL3
          have hI3o := hI3
          have hj := hI3; have hv53 : RdV [svSeg s53 34 (entsV C'.all)] (svVal s53 C'.all.length) C'.all.length (entsV C'.all) := rdV_sv .z ok53
          refine cseq ?_; intro K27 hK27
          refine creg ?_
          refine y (ev_lss rfl rfl) rfl ?_
          refine ynil' (kthn (hK27 _ _ ?_))
          clear hK27
          refine cseq ?_; intro K28 hK28
          refine ccond rfl (fun h74 => ?_) (fun h74 => ?_)
          ·(try simp only [sH] at h74)
           refine cskip' (kthn (hK28 _ _ ?_))
           clear hK28
           refine cseq ?_; intro K29 hK29
           refine cblock ?_
           refine cseq ?_; intro K30 hK30
           refine creg ?_
           refine y (ev_move rfl) rfl ?_
           refine y (ev_assign rfl) rfl ?_
           refine ynil' (kthn (hK30 _ _ ?_))
           clear hK30
           refine cseq ?_; intro K31 hK31
           refine cdraw 8 [(0, true), (1, true), (2, true), (3, true), (4, true), (5, true), (6, true), (7, true)] (_) Tryz.mixed (by kernel_rfl) .refl ?_
           obtain ⟨y1, hy1⟩ : ∃ y1, C'.all[j]? = some y1 := ⟨_, List.getElem?_eq_getElem (by omega)⟩
           have hab := hri.low.all (List.mem_of_getElem? hy1)
           refine hr rfl (ev_fieldAddr 0 rfl Tryz.underlying50 rfl Tryz.sizeOf41) rfl ?_
           refine hr rfl (ev_load rfl Tryz.isAgg41 (by repeat first | exact .z | apply In.s) rfl) rfl ?_
           refine hr rfl (ev_move rfl) rfl ?_
           refine hr rfl (ev_ixV hv53 rfl rfl Tryz.underlying41 Tryz.sizeOf34 (by omega) (by omega)) rfl ?_
           refine hr rfl (ev_fieldAddr 1 rfl Tryz.underlying34 rfl Tryz.sizeOf31) rfl ?_
           refine hr rfl (ev_loadNV (us := [i64 y1.ve, i64 y1.vs]) (j * 7 + 1) hv53 (by repeat first | exact .refl | exact .nil | exact .z | apply Pk.s | refine Ge.e ?_ | apply Ge.pick | apply Ge.drop) rfl Tryz.isAgg31 Tryz.sizeOf31 (by simp; omega) (entsV_ver hy1) rfl) rfl ?_
           refine hr rfl (ev_fieldAddr 1 rfl Tryz.underlying50 rfl Tryz.sizeOf31) rfl ?_
           refine hr rfl (ev_loadN (u := [i64 C'.k.e, i64 C'.k.s]) rfl Tryz.isAgg31 Tryz.sizeOf31 (by repeat first | exact .z | apply In.s) rfl rfl) rfl ?_
           refine hnil ?_
           skip
           ·skip
            refine ycall (nAbove) rfl Tryz.call26 (by repeat first | exact .nil | exact .z | apply Pk.s | apply Tk.cons) rfl ?_
            rintro v L' ⟨rfl, rfl⟩
            rw [hab]
            refine hnoP' (kthn (hK31 _ _ ?_))
            clear hK31
            refine ccond0 rfl ?_
            refine cskip' (kbn (kthn (hK29 _ _ ?_)))
            clear hK29
            refine creg ?_
            refine y (ev_add rfl rfl) rfl ?_
            rw [show IntKind.i64.wrap ((j:Int) + 1) = ((j+1 : Nat) : Int) by rw [wr (by omega) (by omega)]; rfl]
            refine y (ev_move rfl) rfl ?_
            refine ynil' (kthn ?_)
            exact hL3 (j + 1) (by omega) (by omega) _ _ (by repeat first | exact sub_nil | refine sub_cons rfl ?_ | refine sub_cons' rfl (by simp) ?_) (by repeat first | exact .refl | exact .nil | exact .z | apply Pk.s | refine Ge.e ?_ | apply Ge.pick | apply Ge.drop)
          ·(try simp only [sH] at h74)
           refine cexit (kthx (kthx (kbx (kthn ?_))))
           exact ksub (by repeat first | exact sub_nil | refine sub_cons rfl ?_ | refine sub_cons' rfl (by simp) ?_) (by repeat first | exact .refl | exact .nil | exact .z | apply Pk.s | refine Ge.e ?_ | apply Ge.pick | apply Ge.drop) (hJ3 j ⟨hI3o, by first | trivial | omega⟩)
         clear hK23
         refine cblock ?_
         refine cloop (A := Nat) (fun x => [(59, i64 x), (10, ptr b10), (9, i64 i), (8, ptr b8), (6, ptr A17.p), (1, lv)]) (fun x => [sc b10 (toldM s53 C') 50, svSeg s53 34 (entsV C'.all), sc b8 [va, i64 C.k.e, i64 C.k.s, i64 C.k.t.a, i64 C.k.t.b, i64 C.k.t.c, i64 C.k.t.d] 50, caP A17 C', enS A17 C', puS A17 C', lgS A17 q17 sl51 C', dev q17 D'] ++ R) (fun x => x ≤ 4) (fun x => 4 - x) (0) ?_ (by repeat first | exact sub_nil | refine sub_cons rfl ?_ | refine sub_cons' rfl (by simp) ?_) (by repeat first | exact .refl | exact .nil | exact .z | apply Pk.s | refine Ge.e ?_ | apply Ge.pick | apply Ge.drop) ?_
         · exact Nat.zero_le _
         rintro j hI2 KL2 hL2
         have hI2o := hI2
         have hj := hI2
         refine cseq ?_; intro K32 hK32
         refine creg ?_
         refine y (ev_lss rfl rfl) rfl ?_
         refine ynil' (kthn (hK32 _ _ ?_))
         clear hK32
         refine cseq ?_; intro K33 hK33
         refine ccond rfl (fun h89 => ?_) (fun h89 => ?_)
         ·(try simp only [sH] at h89)
          refine cskip' (kthn (hK33 _ _ ?_))
          clear hK33
          refine cseq ?_; intro K34 hK34
          refine cblock ?_
          refine cseq ?_; intro K35 hK35
          refine creg ?_
          refine y (ev_move rfl) rfl ?_
          refine y (ev_assign rfl) rfl ?_
          refine ynil' (kthn (hK35 _ _ ?_))
          clear hK35
          refine cseq ?_; intro K36 hK36
          refine cdraw 8 [(0, true), (1, true), (2, true), (3, true), (4, true), (5, true), (6, true), (7, true)] (_) Tryz.mixed (by kernel_rfl) .refl ?_
          have hj4 : j = 0 ∨ j = 1 ∨ j = 2 ∨ j = 3 := by omega
          obtain ⟨h71, h72, h73, h74⟩ := hri.t
          have hle : C.k.t.get j ≤ C'.k.t.get j := by rcases hj4 with rfl | rfl | rfl | rfl <;> assumption
          refine hr rfl (ev_move rfl) rfl ?_
          refine hr rfl (ev_fieldAddr 3 rfl Tryz.underlying50 rfl Tryz.sizeOf48) rfl ?_
          refine hr rfl (ev_ixAddrA rfl rfl Tryz.underlying48 Tryz.sizeOf2 (by omega) (by omega)) rfl ?_
          refine hr rfl (ev_load (v := i64 (C'.k.t.get j)) rfl Tryz.isAgg2 (by repeat first | exact .z | apply In.s) (by rcases hj4 with rfl | rfl | rfl | rfl <;> rfl)) rfl ?_
          refine hr rfl (ev_move rfl) rfl ?_
          refine hr rfl (ev_fieldAddr 3 rfl Tryz.underlying50 rfl Tryz.sizeOf48) rfl ?_
          refine hr rfl (ev_ixAddrA rfl rfl Tryz.underlying48 Tryz.sizeOf2 (by omega) (by omega)) rfl ?_
          refine hr rfl (ev_load (v := i64 (C.k.t.get j)) rfl Tryz.isAgg2 (by repeat first | exact .z | apply In.s) (by rcases hj4 with rfl | rfl | rfl | rfl <;> rfl)) rfl ?_
          refine hnil ?_
          refine y (ev_lss rfl rfl) rfl ?_
          refine hnoP' (kthn (hK36 _ _ ?_))
          clear hK36
          refine ccond rfl (fun h101 => ?_) (fun h101 => ?_)
          ·(try simp only [sH] at h101)
           exfalso; omega
          ·(try simp only [sH] at h101)
           refine cskip' (kbn (kthn (hK34 _ _ ?_)))
           clear hK34
           refine creg ?_
           refine y (ev_add rfl rfl) rfl ?_
           rw [show IntKind.i64.wrap ((j:Int) + 1) = ((j+1 : Nat) : Int) by rw [wr (by omega) (by omega)]; rfl]
           refine y (ev_move rfl) rfl ?_
           refine ynil' (kthn ?_)
           exact hL2 (j + 1) (by omega) (by omega) _ _ (by repeat first | exact sub_nil | refine sub_cons rfl ?_ | refine sub_cons' rfl (by simp) ?_) (by repeat first | exact .refl | exact .nil | exact .z | apply Pk.s | refine Ge.e ?_ | apply Ge.pick | apply Ge.drop)
         ·(try simp only [sH] at h89)
          refine cexit (kthx (kthx (kbx (kthn ?_))))
          exact ksub (by repeat first | exact sub_nil | refine sub_cons rfl ?_ | refine sub_cons' rfl (by simp) ?_) (by repeat first | exact .refl | exact .nil | exact .z | apply Pk.s | refine Ge.e ?_ | apply Ge.pick | apply Ge.drop) (hJ2 j ⟨hI2o, by first | trivial | omega⟩)
     ·(try simp only [sH] at h30)
      refine cexit (kthx (kthx (kbx (kthn ?_))))
      exact ksub (by repeat first | exact sub_nil | refine sub_cons rfl ?_ | refine sub_cons' rfl (by simp) ?_) (by repeat first | exact .refl | exact .nil | exact .z | apply Pk.s | refine Ge.e ?_ | apply Ge.pick | apply Ge.drop) (hJ1 ⟨i, C, D, sl, va⟩ ⟨hI1o, by first | trivial | omega⟩)
    ·(try simp only [sH] at h26)
     refine yg0 rfl rfl rfl rfl ?_
     refine yg0 rfl rfl rfl rfl ?_
     refine y (ev_pick0 rfl rfl) rfl ?_
     refine ynil' (kthn (hK12 _ _ ?_))
     clear hK12
     refine ccond0 rfl ?_
     refine cexit (kthx (kthx (kbx (kthn ?_))))
     exact ksub (by repeat first | exact sub_nil | refine sub_cons rfl ?_ | refine sub_cons' rfl (by simp) ?_) (by repeat first | exact .refl | exact .nil | exact .z | apply Pk.s | refine Ge.e ?_ | apply Ge.pick | apply Ge.drop) (hJ1 ⟨i, C, D, sl, va⟩ ⟨hI1o, by first | trivial | omega⟩)
end W
end Go.Proofs
