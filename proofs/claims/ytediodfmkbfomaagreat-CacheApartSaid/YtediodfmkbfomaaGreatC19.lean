/- A part of the proof: contracts and plain lemmas, each without conditions beyond those that it names. -/
import Derived.Test.YtediodfmkbfomaaGreatC17
set_option linter.unusedVariables false
set_option linter.unusedSimpArgs false
set_option linter.constructorNameAsVariable false
namespace Go.Proofs
open Go Go.Sl
namespace W
set_option linter.unusedVariables false
theorem lawCApart [Env] {R : List Seg} {bv : Int} {lv : Value} {acts : List ActC} (hb : 0 ≤ bv ∧ bv ≤ 255) (hl : RdV R lv acts.length (actcsV acts)) (haa : ∀ a ∈ acts, a.ok R) :
    Con Tryz.prog 8 [.int .u8 bv, lv] [] R (Is (.bool true) []) := by
  have hvl := hl.lenVal
  refine con_enter Tryz.func8 Tryz.ntmps8 rfl rfl ?_
  refine cseq ?_; intro K1 hK1
  refine creg ?_
  refine y (ev_assign rfl) rfl ?_
  refine ynil' (kthn (hK1 _ _ ?_))
  clear hK1
  refine cseq ?_; intro K2 hK2
  refine cseq ?_; intro K3 hK3
  refine creg ?_
  refine ycall (awake9) rfl Tryz.call11 (by repeat first | exact .nil | exact .z | apply Pk.s | apply Tk.cons) rfl ?_
  rintro v L' ⟨rfl, rfl⟩
  skip
  ·skip
   refine y (ev_not rfl) rfl ?_
   refine ynil' (kthn (hK3 _ _ ?_))
   clear hK3
   refine ccond0 rfl ?_
   refine cskip' (kthn (hK2 _ _ ?_))
   clear hK2
   refine cseq ?_; intro K4 hK4
   refine creg ?_
   refine y (ev_move rfl) rfl ?_
   refine ycall (nOpen9 ?ra5 ?rb5) rfl Tryz.call12 (by repeat first | exact .nil | exact .z | apply Pk.s | apply Tk.cons) rfl ?_
   case ra5 => exact hb.1
   case rb5 => exact hb.2
   rintro v L' ⟨q23, A23, sl23, C23, D23, rfl, hS23, hv23, ok23, rfl⟩
   obtain ⟨n8, n37⟩ := nCa_le bv
   generalize nCa bv = n at *
   generalize C23 = C0 at *
   generalize D23 = D0 at *
   refine y (ev_move rfl) rfl ?_
   refine y (ev_extract rfl rfl) rfl ?_
   refine y (ev_extract rfl rfl) rfl ?_
   refine y (ev_extract rfl rfl) rfl ?_
   refine y (ev_assign rfl) rfl ?_
   refine y (ev_assign rfl) rfl ?_
   refine y (ev_assign rfl) rfl ?_
   refine ynil' (kthn (hK4 _ _ ?_))
   clear hK4
   refine cseq ?_; intro K5 hK5
   refine cseq ?_; intro K6 hK6
   refine creg ?_
   refine y (ev_move rfl) rfl ?_
   skip
   ·skip
    refine y (ev_eqlPnil rfl rfl Tryz.underlying26) rfl ?_
    refine ynil' (kthn (hK6 _ _ ?_))
    clear hK6
    refine ccond0 rfl ?_
    refine cskip' (kthn (hK5 _ _ ?_))
    clear hK5
    refine cseq ?_; intro K7 hK7
    refine cseq ?_; intro K8 hK8
    refine creg ?_
    refine y (ev_assign rfl) rfl ?_
    refine ynil' (kthn (hK8 _ _ ?_))
    clear hK8
    have hJ1 : ∀ x : Nat × CaM × Dev × Sv, ((CaS 32 n (200 * x.1 + 1) x.2.1 x.2.2.1 ∧ itOk x.2.2.2 x.2.1.l ∧ x.1 ≤ acts.length ∧ x.1 ≤ 60) ∧ (True)) → Sk 129 K7 ([(8, i64 x.1), (6, ptr A23.p), (1, lv)]) ([caP A23 x.2.1, enS A23 x.2.1, puS A23 x.2.1, lgS A23 q23 x.2.2.2 x.2.1, dev q23 x.2.2.1] ++ R) := by
     rintro ⟨i, C, D, sl⟩ ⟨hI1, hX1⟩
     refine hK7 _ _ ?_
     obtain ⟨hS, hsl, hi1, hi2⟩ := hI1; dsimp only at hS hsl hi1 hi2 ⊢; have hal := all_le hS.g.ok; have hbl := hS.g.bl; have hnn := hS.g.nn
     refine cseq ?_; intro K9 hK9
     refine creg ?_
     refine y (ev_assign rfl) rfl ?_
     refine ynil' (kthn (hK9 _ _ ?_))
     clear hK9
     refine cret ?_
     first
       | (exfalso; omega; done)
       | (refine kretv Tryz.results8 rfl (L1 := R) (by repeat first | exact .refl | exact .nil | exact .z | apply Pk.s | refine Ge.e ?_ | apply Ge.pick | apply Ge.drop) ?_
          exact ⟨_, ⟨by first | rfl | (exfalso; omega; done), rfl⟩, by first | rfl | (exfalso; omega; done)⟩)
    clear hK7
    refine cblock ?_
    refine cloop (A := Nat × CaM × Dev × Sv) (fun x => [(8, i64 x.1), (6, ptr A23.p), (1, lv)]) (fun x => [caP A23 x.2.1, enS A23 x.2.1, puS A23 x.2.1, lgS A23 q23 x.2.2.2 x.2.1, dev q23 x.2.2.1] ++ R) (fun x => CaS 32 n (200 * x.1 + 1) x.2.1 x.2.2.1 ∧ itOk x.2.2.2 x.2.1.l ∧ x.1 ≤ acts.length ∧ x.1 ≤ 60) (fun x => 60 - x.1) ((0, C0, D0, sl23)) ?_ (by repeat first | exact sub_nil | refine sub_cons rfl ?_ | refine sub_cons' rfl (by simp) ?_) (by repeat first | exact .refl | exact .nil | exact .z | apply Pk.s | refine Ge.e ?_ | apply Ge.pick | apply Ge.drop) ?_
    · exact ⟨hS23, ok23, Nat.zero_le _, Nat.zero_le _⟩
    rintro ⟨i, C, D, sl⟩ hI1 KL1 hL1
    have hI1o := hI1
    obtain ⟨hS, hsl, hi1, hi2⟩ := hI1; dsimp only at hS hsl hi1 hi2 ⊢; have hal := all_le hS.g.ok; have hbl := hS.g.bl; have hnn := hS.g.nn
    refine cseq ?_; intro K10 hK10
    refine cseq ?_; intro K11 hK11
    refine creg ?_
    refine y (ev_move rfl) rfl ?_
    refine y (ev_move rfl) rfl ?_
    first
      | refine y (ev_len rfl Tryz.underlying55) rfl ?_
      | refine y (ev_lenSv rfl Tryz.underlying55 (by assumption)) rfl ?_
      | refine y (ev_lenV rfl Tryz.underlying55 (RdV.lenVal (by assumption))) rfl ?_
      | refine y (ev_lenV rfl Tryz.underlying55 (RdB.lenVal (by assumption))) rfl ?_
    refine y (ev_lss rfl rfl) rfl ?_
    refine y (ev_move rfl) rfl ?_
    refine ysplit 33 rfl (fun h22 => ?_) (fun h22 => ?_)
    ·(try simp only [sH] at h22)
     refine yg1 rfl rfl ?_
     refine y (ev_move rfl) rfl ?_
     refine yg1 rfl rfl ?_
     refine y (ev_lss rfl rfl) rfl ?_
     refine y (ev_pick1 rfl rfl) rfl ?_
     refine ynil' (kthn (hK11 _ _ ?_))
     clear hK11
     refine ccond rfl (fun h26 => ?_) (fun h26 => ?_)
     ·(try simp only [sH] at h26)
      refine cskip' (kthn (hK10 _ _ ?_))
      clear hK10
      refine cseq ?_; intro K12 hK12
      refine cblock ?_
      refine cseq ?_; intro K13 hK13
      refine creg ?_
      obtain ⟨yy, hy⟩ : ∃ yy, acts[i]? = some yy := ⟨_, List.getElem?_eq_getElem (by omega)⟩
      have hact := haa yy (List.mem_of_getElem? hy)
      refine y (ev_move rfl) rfl ?_
      refine y (ev_move rfl) rfl ?_
      refine y (ev_ixV hl rfl rfl Tryz.underlying55 Tryz.sizeOf59 (by omega) (by omega)) rfl ?_
      refine y (ev_loadNV (us := yy.cells) (i * 12) hl (by repeat first | exact .refl | exact .nil | exact .z | apply Pk.s | refine Ge.e ?_ | apply Ge.pick | apply Ge.drop) rfl Tryz.isAgg59 Tryz.sizeOf59 (by simp) (actcsV_get hy) rfl) rfl ?_
      refine ya (ac_alloc Tryz.zeroValue59 rfl) rfl ?_
      rintro v L' ⟨b9, rfl, rfl⟩
      refine ya0 (ac_storeAll rfl rfl hact.one Tryz.sizeOf59 (by repeat first | exact .z | apply Rp.s) (by rfl) (by rfl)) ?_
      rintro v L' ⟨rfl, rfl⟩
      refine ynil' (kthn (hK13 _ _ ?_))
      clear hK13
      refine cseq ?_; intro K14 hK14
      refine cseq ?_; intro K15 hK15
      refine creg ?_
      refine y (ev_loadN (u := yy.cells) rfl Tryz.isAgg59 Tryz.sizeOf59 (by repeat first | exact .z | apply In.s) rfl rfl) rfl ?_
      refine ycall (nLarge9 ?lx34) rfl Tryz.call24 (by repeat first | exact .nil | exact .z | apply Pk.s | apply Tk.cons) rfl ?_
      case lx34 => exact hact.mono (by repeat first | exact .refl | exact .nil | exact .z | apply Pk.s | refine Ge.e ?_ | apply Ge.pick | apply Ge.drop)
      rintro v L' ⟨big44, rfl, hbig44, rfl⟩
      refine ynil' (kthn (hK15 _ _ ?_))
      clear hK15
      refine ccond rfl (fun h35 => ?_) (fun h35 => ?_)
      ·(try simp only [sH] at h35)
       refine cseq ?_; intro K16 hK16
       refine creg ?_
       refine y (ev_assign rfl) rfl ?_
       refine ynil' (kthn (hK16 _ _ ?_))
       clear hK16
       refine cret (kthr (kbr (kthr (kthr (kbr (kthr ?_))))))
       first
         | (exfalso; omega; done)
         | (refine kretv Tryz.results8 rfl (L1 := R) (by repeat first | exact .refl | exact .nil | exact .z | apply Pk.s | refine Ge.e ?_ | apply Ge.pick | apply Ge.drop) ?_
            exact ⟨_, ⟨by first | rfl | (exfalso; omega; done), rfl⟩, by first | rfl | (exfalso; omega; done)⟩)
      ·(try simp only [sH] at h35)
       have hlg := hbig44 h35
       refine cskip' (kthn (hK14 _ _ ?_))
       clear hK14
       refine cseq ?_; intro K17 hK17
       refine creg ?_
       refine y (ev_move rfl) rfl ?_
       refine ycall (kAll (C := C) ?bl38) rfl Tryz.call17 (by repeat first | exact .nil | exact .z | apply Pk.s | apply Tk.cons) rfl ?_
       case bl38 => omega
       rintro v L' ⟨s46, rfl, ok46, rfl⟩
       refine y (ev_assign rfl) rfl ?_
       refine ynil' (kthn (hK17 _ _ ?_))
       clear hK17
       refine cseq ?_; intro K18 hK18
       refine creg ?_
       refine y (ev_move rfl) rfl ?_
       refine y (ev_fieldAddr 2 rfl Tryz.underlying59 rfl Tryz.sizeOf34) rfl ?_
       refine y (ev_fieldAddr 0 rfl Tryz.underlying34 rfl Tryz.sizeOf3) rfl ?_
       refine y (ev_load rfl Tryz.isAgg3 (by repeat first | exact .z | apply In.s) rfl) rfl ?_
       refine ycall (kGet (C := C) (b := yy.x.blk)) rfl Tryz.call15 (by repeat first | exact .nil | exact .z | apply Pk.s | apply Tk.cons) rfl ?_
       rintro v L' ⟨rfl, rfl⟩
       refine y (ev_move rfl) rfl ?_
       refine y (ev_extract rfl rfl) rfl ?_
       refine y (ev_extract rfl rfl) rfl ?_
       refine ya (ac_alloc Tryz.zeroValue34 rfl) rfl ?_
       rintro v L' ⟨b11, rfl, rfl⟩
       refine ya0 (ac_storeAll rfl rfl (ent_one _) Tryz.sizeOf34 (by repeat first | exact .z | apply Rp.s) rfl rfl) ?_
       rintro v L' ⟨rfl, rfl⟩
       refine y (ev_assign rfl) rfl ?_
       refine ynil' (kthn (hK18 _ _ ?_))
       clear hK18
       refine cseq ?_; intro K19 hK19
       have hJr15 : ∀ z : Bool, (z = placeM n C yy.kind yy.x.blk) → Sk 129 K19 ([(13, .bool z), (10, svVal s46 C.all.length), (9, ptr b9), (8, i64 i), (6, ptr A23.p), (1, lv)]) ([sc b9 yy.cells 59, svSeg s46 34 (entsV C.all), caP A23 C, enS A23 C, puS A23 C, lgS A23 q23 sl C, dev q23 D] ++ R) := by
        rintro pl hIr15
        refine hK19 _ _ ?_
        have hpl := hIr15
        refine cseq ?_; intro K20 hK20
        refine creg ?_
        refine y (ev_move rfl) rfl ?_
        refine y (ev_loadN (u := yy.cells) rfl Tryz.isAgg59 Tryz.sizeOf59 (by repeat first | exact .z | apply In.s) rfl rfl) rfl ?_
        refine ycall (nDo (C := C) (sl := sl) (q := q23) (D := D) (a := yy) ?cok53 ?its53 ?lx53 ?lt53) rfl Tryz.call25 (by repeat first | exact .nil | exact .z | apply Pk.s | apply Tk.cons) rfl ?_
        case cok53 => exact hS.g.ok
        case its53 => exact hsl
        case lx53 => exact hact.mono (by repeat first | exact .refl | exact .nil | exact .z | apply Pk.s | refine Ge.e ?_ | apply Ge.pick | apply Ge.drop)
        case lt53 => omega
        rintro v L' ⟨sl71, rfl, ok71, rfl⟩
        obtain ⟨hdid, hcode⟩ := hS.doM (by omega) (by omega) yy.kind yy.x yy.ts
        obtain ⟨bz, hap⟩ := hS.apart (by omega) (by omega) yy.kind yy.x yy.ts
        generalize doM C D yy.kind yy.x yy.ts = r at *
        obtain ⟨er, C', D'⟩ := r
        dsimp only at *
        have hS' := hdid.s
        dsimp only at hS'
        have hal' := all_le hS'.g.ok
        have hbl' := hS'.g.bl
        have hnn' := hS'.g.nn
        have hcn' : C'.all.length + 6 ≤ n := by rw [all_cnt, ← en_len hS'.g.ok]; exact hS'.room
        refine ynil' (kthn (hK20 _ _ ?_))
        clear hK20
        refine cseq ?_; intro K21 hK21
        refine creg ?_
        refine y (ev_assign rfl) rfl ?_
        refine ynil' (kthn (hK21 _ _ ?_))
        clear hK21
        refine cseq ?_; intro K22 hK22
        refine cseq ?_; intro K23 hK23
        refine creg ?_
        refine y (ev_move rfl) rfl ?_
        first
          | refine y (ev_len rfl Tryz.underlying41) rfl ?_
          | refine y (ev_lenSv rfl Tryz.underlying41 (by assumption)) rfl ?_
          | refine y (ev_lenV rfl Tryz.underlying41 (RdV.lenVal (by assumption))) rfl ?_
          | refine y (ev_lenV rfl Tryz.underlying41 (RdB.lenVal (by assumption))) rfl ?_
        refine y (ev_move rfl) rfl ?_
        refine ynil' (kthn (hK23 _ _ ?_))
        clear hK23
        have hJ2 : ∀ x : Nat × Nat, ((Gone C bz x.1 x.2 ∧ x.1 ≤ C.all.length) ∧ (True)) → Sk 129 K22 ([(74, i64 x.1), (73, i64 C.all.length), (72, svVal s46 C.all.length), (14, i64 x.2), (13, .bool pl), (10, svVal s46 C.all.length), (9, ptr b9), (8, i64 i), (6, ptr A23.p), (1, lv)]) ([sc b9 yy.cells 59, svSeg s46 34 (entsV C.all), caP A23 C', enS A23 C', puS A23 C', lgS A23 q23 sl71 C', dev q23 D'] ++ R) := by
         rintro ⟨j, g⟩ ⟨hI2, hX2⟩
         refine hK22 _ _ ?_
         obtain ⟨hG, hj⟩ := hI2; dsimp only at hG hj ⊢; have hg1 := hG.le; have hv46 : RdV [svSeg s46 34 (entsV C.all)] (svVal s46 C.all.length) C.all.length (entsV C.all) := rdV_sv .z ok46
         refine cseq ?_; intro K24 hK24
         refine creg ?_
         refine y (ev_move rfl) rfl ?_
         refine y (ev_gtr rfl rfl) rfl ?_
         refine y (ev_move rfl) rfl ?_
         refine ysplit 118 rfl (fun h61 => ?_) (fun h61 => ?_)
         ·(try simp only [sH] at h61)
          exfalso; omega
         ·(try simp only [sH] at h61)
          refine yg1 rfl rfl ?_
          refine y (ev_move rfl) rfl ?_
          refine yg1 rfl rfl ?_
          refine ycall (kAll (C := C') ?bl63) rfl Tryz.call17 (by repeat first | exact .nil | exact .z | apply Pk.s | apply Tk.cons) rfl ?_
          case bl63 => omega
          rintro v L' ⟨s120, rfl, ok120, rfl⟩
          refine yg1 rfl rfl ?_
          first
            | refine y (ev_len rfl Tryz.underlying41) rfl ?_
            | refine y (ev_lenSv rfl Tryz.underlying41 (by assumption)) rfl ?_
            | refine y (ev_lenV rfl Tryz.underlying41 (RdV.lenVal (by assumption))) rfl ?_
            | refine y (ev_lenV rfl Tryz.underlying41 (RdB.lenVal (by assumption))) rfl ?_
          refine yg1 rfl rfl ?_
          refine y (ev_move rfl) rfl ?_
          refine yg1 rfl rfl ?_
          refine ycall (kRoom (C := C') ?rn66) rfl Tryz.call14 (by repeat first | exact .nil | exact .z | apply Pk.s | apply Tk.cons) rfl ?_
          case rn66 => omega
          rintro v L' ⟨rfl, rfl⟩
          refine yg1 rfl rfl ?_
          refine y (ev_move rfl) rfl ?_
          refine yg1 rfl rfl ?_
          first
            | refine y (ev_len rfl Tryz.underlying41) rfl ?_
            | refine y (ev_lenSv rfl Tryz.underlying41 (by assumption)) rfl ?_
            | refine y (ev_lenV rfl Tryz.underlying41 (RdV.lenVal (by assumption))) rfl ?_
            | refine y (ev_lenV rfl Tryz.underlying41 (RdB.lenVal (by assumption))) rfl ?_
          refine yg1 rfl rfl ?_
          refine y (ev_max rfl rfl) rfl ?_
          rw [if_max]
          refine yg1 rfl rfl ?_
          refine y (ev_gtr rfl rfl) rfl ?_
          refine y (ev_pick0 rfl rfl) rfl ?_
          refine ynil' (kthn (hK24 _ _ ?_))
          clear hK24
          refine ccond rfl (fun h72 => ?_) (fun h72 => ?_)
          ·(try simp only [sH] at h72)
           exfalso; omega
          ·(try simp only [sH] at h72)
           refine cskip' (kbn (kthn (hK12 _ _ ?_)))
           clear hK12
           refine creg ?_
           refine y (ev_move rfl) rfl ?_
           refine y (ev_add rfl rfl) rfl ?_
           rw [show IntKind.i64.wrap ((i:Int) + 1) = ((i+1 : Nat) : Int) by rw [wr (by omega) (by omega)]; rfl]
           refine y (ev_assign rfl) rfl ?_
           refine ynil' (kthn ?_)
           exact hL1 ((i + 1, C', D', sl71)) (⟨hS'.le (by omega), ok71, by dsimp only; omega, by dsimp only; omega⟩) (by dsimp only; omega) _ _ (by repeat first | exact sub_nil | refine sub_cons rfl ?_ | refine sub_cons' rfl (by simp) ?_) (by repeat first | exact .refl | exact .nil | exact .z | apply Pk.s | refine Ge.e ?_ | apply Ge.pick | apply Ge.drop)
        clear hK22
        refine cblock ?_
        refine cloop (A := Nat × Nat) (fun x => [(74, i64 x.1), (73, i64 C.all.length), (72, svVal s46 C.all.length), (14, i64 x.2), (13, .bool pl), (10, svVal s46 C.all.length), (9, ptr b9), (8, i64 i), (6, ptr A23.p), (1, lv)]) (fun x => [sc b9 yy.cells 59, svSeg s46 34 (entsV C.all), caP A23 C', enS A23 C', puS A23 C', lgS A23 q23 sl71 C', dev q23 D'] ++ R) (fun x => Gone C bz x.1 x.2 ∧ x.1 ≤ C.all.length) (fun x => C.all.length - x.1) ((0, 0)) ?_ (by repeat first | exact sub_nil | refine sub_cons rfl ?_ | refine sub_cons' rfl (by simp) ?_) (by repeat first | exact .refl | exact .nil | exact .z | apply Pk.s | refine Ge.e ?_ | apply Ge.pick | apply Ge.drop) ?_
        · exact ⟨⟨Nat.zero_le _, fun h => by cases h⟩, Nat.zero_le _⟩
        rintro ⟨j, g⟩ hI2 KL2 hL2
        have hI2o := hI2
        obtain ⟨hG, hj⟩ := hI2; dsimp only at hG hj ⊢; have hg1 := hG.le; have hv46 : RdV [svSeg s46 34 (entsV C.all)] (svVal s46 C.all.length) C.all.length (entsV C.all) := rdV_sv .z ok46
        refine cseq ?_; intro K25 hK25
        refine creg ?_
        refine y (ev_lss rfl rfl) rfl ?_
        refine ynil' (kthn (hK25 _ _ ?_))
        clear hK25
        refine cseq ?_; intro K26 hK26
        refine ccond rfl (fun h77 => ?_) (fun h77 => ?_)
        ·(try simp only [sH] at h77)
         refine cskip' (kthn (hK26 _ _ ?_))
         clear hK26
         refine cseq ?_; intro K27 hK27
         refine cblock ?_
         refine cseq ?_; intro K28 hK28
         refine creg ?_
         obtain ⟨y1, hy1⟩ : ∃ y1, C.all[j]? = some y1 := ⟨_, List.getElem?_eq_getElem (by omega)⟩
         have hy1g := all_blk hS.g.ok hy1
         refine y (ev_ixV hv46 rfl rfl Tryz.underlying41 Tryz.sizeOf34 (by omega) (by omega)) rfl ?_
         refine y (ev_loadNV (us := [i64 y1.blk, i64 y1.ve, i64 y1.vs, str y1.data, .bool y1.dirty, i64 y1.cl, i64 y1.n]) (j * 7) hv46 (by repeat first | exact .refl | exact .nil | exact .z | apply Pk.s | refine Ge.e ?_ | apply Ge.pick | apply Ge.drop) rfl Tryz.isAgg34 Tryz.sizeOf34 (by first | rfl | (simp; done)) (entsV_get hy1) rfl) rfl ?_
         refine ya (ac_alloc Tryz.zeroValue34 rfl) rfl ?_
         rintro v L' ⟨b16, rfl, rfl⟩
         refine ya0 (ac_storeAll rfl rfl (ent_one _) Tryz.sizeOf34 (by repeat first | exact .z | apply Rp.s) rfl rfl) ?_
         rintro v L' ⟨rfl, rfl⟩
         refine ynil' (kthn (hK28 _ _ ?_))
         clear hK28
         refine cseq ?_; intro K29 hK29
         refine creg ?_
         refine y (ev_move rfl) rfl ?_
         refine y (ev_fieldAddr 0 rfl Tryz.underlying34 rfl Tryz.sizeOf3) rfl ?_
         refine y (ev_load rfl Tryz.isAgg3 (by repeat first | exact .z | apply In.s) rfl) rfl ?_
         refine ycall (kGet (C := C') (b := y1.blk)) rfl Tryz.call15 (by repeat first | exact .nil | exact .z | apply Pk.s | apply Tk.cons) rfl ?_
         rintro v L' ⟨rfl, rfl⟩
         refine y (ev_move rfl) rfl ?_
         refine y (ev_extract rfl rfl) rfl ?_
         refine y (ev_extract rfl rfl) rfl ?_
         refine ya (ac_alloc Tryz.zeroValue34 rfl) rfl ?_
         rintro v L' ⟨b17, rfl, rfl⟩
         refine ya0 (ac_storeAll rfl rfl (ent_one _) Tryz.sizeOf34 (by repeat first | exact .z | apply Rp.s) rfl rfl) ?_
         rintro v L' ⟨rfl, rfl⟩
         refine y (ev_assign rfl) rfl ?_
         refine ynil' (kthn (hK29 _ _ ?_))
         clear hK29
         refine cseq ?_; intro K30 hK30
         refine cseq ?_; intro K31 hK31
         refine creg ?_
         refine y (ev_fieldAddr 0 rfl Tryz.underlying59 rfl Tryz.sizeOf3) rfl ?_
         refine y (ev_load rfl Tryz.isAgg3 (by repeat first | exact .z | apply In.s) rfl) rfl ?_
         refine y (ev_leq rfl rfl) rfl ?_
         refine y (ev_move rfl) rfl ?_
         refine ysplit 88 rfl (fun h96 => ?_) (fun h96 => ?_)
         ·(try simp only [sH] at h96)
          refine yg1 rfl rfl ?_
          refine y (ev_fieldAddr 0 rfl Tryz.underlying34 rfl Tryz.sizeOf3) rfl ?_
          refine yg1 rfl rfl ?_
          refine y (ev_load rfl Tryz.isAgg3 (by repeat first | exact .z | apply In.s) rfl) rfl ?_
          refine yg1 rfl rfl ?_
          refine y (ev_fieldAddr 2 rfl Tryz.underlying59 rfl Tryz.sizeOf34) rfl ?_
          refine yg1 rfl rfl ?_
          refine y (ev_fieldAddr 0 rfl Tryz.underlying34 rfl Tryz.sizeOf3) rfl ?_
          refine yg1 rfl rfl ?_
          refine y (ev_load rfl Tryz.isAgg3 (by repeat first | exact .z | apply In.s) rfl) rfl ?_
          refine yg1 rfl rfl ?_
          refine y (ev_eql rfl rfl) rfl ?_
          refine y (ev_pick1 rfl rfl) rfl ?_
          refine ynil' (kthn (hK31 _ _ ?_))
          clear hK31
          refine ccond rfl (fun h104 => ?_) (fun h104 => ?_)
          ·(try simp only [sH] at h104)
           refine cexit (kthx (kbx (kthn (hK27 _ _ ?_))))
           clear hK27
           refine creg ?_
           refine y (ev_add rfl rfl) rfl ?_
           rw [show IntKind.i64.wrap ((j:Int) + 1) = ((j+1 : Nat) : Int) by rw [wr (by omega) (by omega)]; rfl]
           refine y (ev_move rfl) rfl ?_
           refine ynil' (kthn ?_)
           first | (have hq := hdr; exact hL2 (j + 1, g + 1) ⟨hG.more hS.g.ok hy1 hbz, by dsimp only; omega⟩ (by dsimp only; omega) _ _ (by repeat first | exact sub_nil | refine sub_cons rfl ?_ | refine sub_cons' rfl (by simp) ?_) (by repeat first | exact .refl | exact .nil | exact .z | apply Pk.s | refine Ge.e ?_ | apply Ge.pick | apply Ge.drop)) | exact hL2 (j + 1, g) ⟨hG.step, by dsimp only; omega⟩ (by dsimp only; omega) _ _ (by repeat first | exact sub_nil | refine sub_cons rfl ?_ | refine sub_cons' rfl (by simp) ?_) (by repeat first | exact .refl | exact .nil | exact .z | apply Pk.s | refine Ge.e ?_ | apply Ge.pick | apply Ge.drop)
          ·(try simp only [sH] at h104)
           have hne : ¬ (yy.kind ≤ 2 ∧ y1.blk = yy.x.blk) := fun h => h104 h.2
           refine cskip' (kthn (hK30 _ _ ?_))
           clear hK30
           refine cseq ?_; intro K32 hK32
           refine cseq ?_; intro K33 hK33
           refine creg ?_
           rcases hap.all y1 hy1g hne with hsm | ⟨hbz, hnn2, hplt, hdr⟩
           ·skip
            refine y (ev_move rfl) rfl ?_
            first | rw [hsm] | (rw [hnn2]; have hplT : pl = true := hpl.trans hplt; subst hplT)
            refine y (ev_not rfl) rfl ?_
            refine y (ev_move rfl) rfl ?_
            refine yg0 rfl rfl rfl rfl ?_
            refine y (ev_pick0 rfl rfl) rfl ?_
            refine y (ev_move rfl) rfl ?_
            refine yg0 rfl rfl rfl rfl ?_
            refine yg0 rfl rfl rfl rfl ?_
            refine yg0 rfl rfl rfl rfl ?_
            refine y (ev_pick0 rfl rfl) rfl ?_
            refine ynil' (kthn (hK33 _ _ ?_))
            clear hK33
            refine ccond0 rfl ?_
            refine cskip' (kthn (hK32 _ _ ?_))
            clear hK32
            refine cseq ?_; intro K34 hK34
            refine creg ?_
            skip
            ·skip
             refine y (ev_move rfl) rfl ?_
             refine y (ev_not rfl) rfl ?_
             refine y (ev_move rfl) rfl ?_
             refine yg1 rfl rfl ?_
             refine y (ev_loadN (u := y1.cells) rfl Tryz.isAgg34 Tryz.sizeOf34 (by repeat first | exact .z | apply In.s) rfl rfl) rfl ?_
             refine yg1 rfl rfl ?_
             refine y (ev_loadN (u := y1.cells) rfl Tryz.isAgg34 Tryz.sizeOf34 (by repeat first | exact .z | apply In.s) rfl rfl) rfl ?_
             refine yg1 rfl rfl ?_
             refine y (ev_neqF (p := y1 = y1) rfl rfl (by kernel_rfl) (iff_of_eq ent_inj)) rfl ?_
             rw [show (!decide (y1 = y1)) = false by simp]
             refine y (ev_pick0 rfl rfl) rfl ?_
             refine ynil' (kthn (hK34 _ _ ?_))
             clear hK34
             refine ccond0 rfl ?_
             refine cskip' (kbn (kthn (hK27 _ _ ?_)))
             clear hK27
             refine creg ?_
             refine y (ev_add rfl rfl) rfl ?_
             rw [show IntKind.i64.wrap ((j:Int) + 1) = ((j+1 : Nat) : Int) by rw [wr (by omega) (by omega)]; rfl]
             refine y (ev_move rfl) rfl ?_
             refine ynil' (kthn ?_)
             first | (have hq := hdr; exact hL2 (j + 1, g + 1) ⟨hG.more hS.g.ok hy1 hbz, by dsimp only; omega⟩ (by dsimp only; omega) _ _ (by repeat first | exact sub_nil | refine sub_cons rfl ?_ | refine sub_cons' rfl (by simp) ?_) (by repeat first | exact .refl | exact .nil | exact .z | apply Pk.s | refine Ge.e ?_ | apply Ge.pick | apply Ge.drop)) | exact hL2 (j + 1, g) ⟨hG.step, by dsimp only; omega⟩ (by dsimp only; omega) _ _ (by repeat first | exact sub_nil | refine sub_cons rfl ?_ | refine sub_cons' rfl (by simp) ?_) (by repeat first | exact .refl | exact .nil | exact .z | apply Pk.s | refine Ge.e ?_ | apply Ge.pick | apply Ge.drop)
           ·skip
            refine y (ev_move rfl) rfl ?_
            first | rw [hsm] | (rw [hnn2]; have hplT : pl = true := hpl.trans hplt; subst hplT)
            refine y (ev_not rfl) rfl ?_
            refine y (ev_move rfl) rfl ?_
            refine yg1 rfl rfl ?_
            refine y (ev_move rfl) rfl ?_
            refine y (ev_pick1 rfl rfl) rfl ?_
            refine y (ev_move rfl) rfl ?_
            refine yg1 rfl rfl ?_
            refine y (ev_fieldAddr 4 rfl Tryz.underlying34 rfl Tryz.sizeOf4) rfl ?_
            refine yg1 rfl rfl ?_
            refine y (ev_load rfl Tryz.isAgg4 (by repeat first | exact .z | apply In.s) rfl) rfl ?_
            try rw [hdr]
            refine yg1 rfl rfl ?_
            refine y (ev_not rfl) rfl ?_
            refine y (ev_pick1 rfl rfl) rfl ?_
            refine ynil' (kthn (hK33 _ _ ?_))
            clear hK33
            refine ccond1 rfl ?_
            refine cseq ?_; intro K35 hK35
            refine creg ?_
            refine y (ev_move rfl) rfl ?_
            refine y (ev_add rfl rfl) rfl ?_
            rw [show IntKind.i64.wrap ((g:Int) + 1) = ((g+1 : Nat) : Int) by rw [wr (by omega) (by omega)]; rfl]
            refine y (ev_assign rfl) rfl ?_
            refine ynil' (kthn (hK35 _ _ ?_))
            clear hK35
            refine cexit (kthx (kbx (kthn (hK27 _ _ ?_))))
            clear hK27
            refine creg ?_
            refine y (ev_add rfl rfl) rfl ?_
            rw [show IntKind.i64.wrap ((j:Int) + 1) = ((j+1 : Nat) : Int) by rw [wr (by omega) (by omega)]; rfl]
            refine y (ev_move rfl) rfl ?_
            refine ynil' (kthn ?_)
            first | (have hq := hdr; exact hL2 (j + 1, g + 1) ⟨hG.more hS.g.ok hy1 hbz, by dsimp only; omega⟩ (by dsimp only; omega) _ _ (by repeat first | exact sub_nil | refine sub_cons rfl ?_ | refine sub_cons' rfl (by simp) ?_) (by repeat first | exact .refl | exact .nil | exact .z | apply Pk.s | refine Ge.e ?_ | apply Ge.pick | apply Ge.drop)) | exact hL2 (j + 1, g) ⟨hG.step, by dsimp only; omega⟩ (by dsimp only; omega) _ _ (by repeat first | exact sub_nil | refine sub_cons rfl ?_ | refine sub_cons' rfl (by simp) ?_) (by repeat first | exact .refl | exact .nil | exact .z | apply Pk.s | refine Ge.e ?_ | apply Ge.pick | apply Ge.drop)
         ·(try simp only [sH] at h96)
          have hne : ¬ (yy.kind ≤ 2 ∧ y1.blk = yy.x.blk) := fun h => h96 h.1
          refine yg0 rfl rfl rfl rfl ?_
          refine yg0 rfl rfl rfl rfl ?_
          refine yg0 rfl rfl rfl rfl ?_
          refine yg0 rfl rfl rfl rfl ?_
          refine yg0 rfl rfl rfl rfl ?_
          refine yg0 rfl rfl rfl rfl ?_
          refine y (ev_pick0 rfl rfl) rfl ?_
          refine ynil' (kthn (hK31 _ _ ?_))
          clear hK31
          refine ccond0 rfl ?_
          refine cskip' (kthn (hK30 _ _ ?_))
          clear hK30
          refine cseq ?_; intro K36 hK36
          refine cseq ?_; intro K37 hK37
          refine creg ?_
          rcases hap.all y1 hy1g hne with hsm | ⟨hbz, hnn2, hplt, hdr⟩
          ·skip
           refine y (ev_move rfl) rfl ?_
           first | rw [hsm] | (rw [hnn2]; have hplT : pl = true := hpl.trans hplt; subst hplT)
           refine y (ev_not rfl) rfl ?_
           refine y (ev_move rfl) rfl ?_
           refine yg0 rfl rfl rfl rfl ?_
           refine y (ev_pick0 rfl rfl) rfl ?_
           refine y (ev_move rfl) rfl ?_
           refine yg0 rfl rfl rfl rfl ?_
           refine yg0 rfl rfl rfl rfl ?_
           refine yg0 rfl rfl rfl rfl ?_
           refine y (ev_pick0 rfl rfl) rfl ?_
           refine ynil' (kthn (hK37 _ _ ?_))
           clear hK37
           refine ccond0 rfl ?_
           refine cskip' (kthn (hK36 _ _ ?_))
           clear hK36
           refine cseq ?_; intro K38 hK38
           refine creg ?_
           skip
           ·skip
            refine y (ev_move rfl) rfl ?_
            refine y (ev_not rfl) rfl ?_
            refine y (ev_move rfl) rfl ?_
            refine yg1 rfl rfl ?_
            refine y (ev_loadN (u := y1.cells) rfl Tryz.isAgg34 Tryz.sizeOf34 (by repeat first | exact .z | apply In.s) rfl rfl) rfl ?_
            refine yg1 rfl rfl ?_
            refine y (ev_loadN (u := y1.cells) rfl Tryz.isAgg34 Tryz.sizeOf34 (by repeat first | exact .z | apply In.s) rfl rfl) rfl ?_
            refine yg1 rfl rfl ?_
            refine y (ev_neqF (p := y1 = y1) rfl rfl (by kernel_rfl) (iff_of_eq ent_inj)) rfl ?_
            rw [show (!decide (y1 = y1)) = false by simp]
            refine y (ev_pick0 rfl rfl) rfl ?_
            refine ynil' (kthn (hK38 _ _ ?_))
            clear hK38
            refine ccond0 rfl ?_
            refine cskip' (kbn (kthn (hK27 _ _ ?_)))
            clear hK27
            refine creg ?_
            refine y (ev_add rfl rfl) rfl ?_
            rw [show IntKind.i64.wrap ((j:Int) + 1) = ((j+1 : Nat) : Int) by rw [wr (by omega) (by omega)]; rfl]
            refine y (ev_move rfl) rfl ?_
            refine ynil' (kthn ?_)
            first | (have hq := hdr; exact hL2 (j + 1, g + 1) ⟨hG.more hS.g.ok hy1 hbz, by dsimp only; omega⟩ (by dsimp only; omega) _ _ (by repeat first | exact sub_nil | refine sub_cons rfl ?_ | refine sub_cons' rfl (by simp) ?_) (by repeat first | exact .refl | exact .nil | exact .z | apply Pk.s | refine Ge.e ?_ | apply Ge.pick | apply Ge.drop)) | exact hL2 (j + 1, g) ⟨hG.step, by dsimp only; omega⟩ (by dsimp only; omega) _ _ (by repeat first | exact sub_nil | refine sub_cons rfl ?_ | refine sub_cons' rfl (by simp) ?_) (by repeat first | exact .refl | exact .nil | exact .z | apply Pk.s | refine Ge.e ?_ | apply Ge.pick | apply Ge.drop)
          ·skip
           refine y (ev_move rfl) rfl ?_
           first | rw [hsm] | (rw [hnn2]; have hplT : pl = true := hpl.trans hplt; subst hplT)
           refine y (ev_not rfl) rfl ?_
           refine y (ev_move rfl) rfl ?_
           refine yg1 rfl rfl ?_
           refine y (ev_move rfl) rfl ?_
           refine y (ev_pick1 rfl rfl) rfl ?_
           refine y (ev_move rfl) rfl ?_
           refine yg1 rfl rfl ?_
           refine y (ev_fieldAddr 4 rfl Tryz.underlying34 rfl Tryz.sizeOf4) rfl ?_
           refine yg1 rfl rfl ?_
           refine y (ev_load rfl Tryz.isAgg4 (by repeat first | exact .z | apply In.s) rfl) rfl ?_
           try rw [hdr]
           refine yg1 rfl rfl ?_
           refine y (ev_not rfl) rfl ?_
           refine y (ev_pick1 rfl rfl) rfl ?_
           refine ynil' (kthn (hK37 _ _ ?_))
           clear hK37
           refine ccond1 rfl ?_
           refine cseq ?_; intro K39 hK39
           refine creg ?_
           refine y (ev_move rfl) rfl ?_
           refine y (ev_add rfl rfl) rfl ?_
           rw [show IntKind.i64.wrap ((g:Int) + 1) = ((g+1 : Nat) : Int) by rw [wr (by omega) (by omega)]; rfl]
           refine y (ev_assign rfl) rfl ?_
           refine ynil' (kthn (hK39 _ _ ?_))
           clear hK39
           refine cexit (kthx (kbx (kthn (hK27 _ _ ?_))))
           clear hK27
           refine creg ?_
           refine y (ev_add rfl rfl) rfl ?_
           rw [show IntKind.i64.wrap ((j:Int) + 1) = ((j+1 : Nat) : Int) by rw [wr (by omega) (by omega)]; rfl]
           refine y (ev_move rfl) rfl ?_
           refine ynil' (kthn ?_)
           first | (have hq := hdr; exact hL2 (j + 1, g + 1) ⟨hG.more hS.g.ok hy1 hbz, by dsimp only; omega⟩ (by dsimp only; omega) _ _ (by repeat first | exact sub_nil | refine sub_cons rfl ?_ | refine sub_cons' rfl (by simp) ?_) (by repeat first | exact .refl | exact .nil | exact .z | apply Pk.s | refine Ge.e ?_ | apply Ge.pick | apply Ge.drop)) | exact hL2 (j + 1, g) ⟨hG.step, by dsimp only; omega⟩ (by dsimp only; omega) _ _ (by repeat first | exact sub_nil | refine sub_cons rfl ?_ | refine sub_cons' rfl (by simp) ?_) (by repeat first | exact .refl | exact .nil | exact .z | apply Pk.s | refine Ge.e ?_ | apply Ge.pick | apply Ge.drop)
        ·(try simp only [sH] at h77)
         refine cexit (kthx (kthx (kbx (kthn ?_))))
         exact ksub (by repeat first | exact sub_nil | refine sub_cons rfl ?_ | refine sub_cons' rfl (by simp) ?_) (by repeat first | exact .refl | exact .nil | exact .z | apply Pk.s | refine Ge.e ?_ | apply Ge.pick | apply Ge.drop) (hJ2 ⟨j, g⟩ ⟨hI2o, by first | trivial | omega⟩)
       clear hK19
       refine creg ?_
       refine y (ev_fieldAddr 0 rfl Tryz.underlying59 rfl Tryz.sizeOf3) rfl ?_
       refine y (ev_load rfl Tryz.isAgg3 (by repeat first | exact .z | apply In.s) rfl) rfl ?_
       refine y (ev_eql rfl rfl) rfl ?_
       refine y (ev_move rfl) rfl ?_
       refine ysplit 58 rfl (fun h172 => ?_) (fun h172 => ?_)
       ·(try simp only [sH] at h172)
        refine yg1 rfl rfl ?_
        refine y (ev_move rfl) rfl ?_
        refine yg1 rfl rfl ?_
        refine y (ev_not rfl) rfl ?_
        refine y (ev_pick1 rfl rfl) rfl ?_
        refine y (ev_move rfl) rfl ?_
        refine ysplit 62 rfl (fun h177 => ?_) (fun h177 => ?_)
        ·(try simp only [sH] at h177)
         have hpl : decide ((C.n : Int) - 6 ≤ C.all.length) = placeM n C yy.kind yy.x.blk := by unfold placeM; rw [h177, hnn, decide_eq_true (show yy.kind = 0 from ‹_›)]; rfl
         refine yg1 rfl rfl ?_
         refine y (ev_move rfl) rfl ?_
         refine yg1 rfl rfl ?_
         first
           | refine y (ev_len rfl Tryz.underlying41) rfl ?_
           | refine y (ev_lenSv rfl Tryz.underlying41 (by assumption)) rfl ?_
           | refine y (ev_lenV rfl Tryz.underlying41 (RdV.lenVal (by assumption))) rfl ?_
           | refine y (ev_lenV rfl Tryz.underlying41 (RdB.lenVal (by assumption))) rfl ?_
         refine yg1 rfl rfl ?_
         refine y (ev_move rfl) rfl ?_
         refine yg1 rfl rfl ?_
         refine ycall (kRoom (C := C) ?rn181) rfl Tryz.call14 (by repeat first | exact .nil | exact .z | apply Pk.s | apply Tk.cons) rfl ?_
         case rn181 => omega
         rintro v L' ⟨rfl, rfl⟩
         refine yg1 rfl rfl ?_
         refine y (ev_geq rfl rfl) rfl ?_
         refine y (ev_pick1 rfl rfl) rfl ?_
         refine y (ev_assign rfl) rfl ?_
         refine ynil' (kthn ?_)
         exact ksub (by repeat first | exact sub_nil | refine sub_cons rfl ?_ | refine sub_cons' rfl (by simp) ?_) (by repeat first | exact .refl | exact .nil | exact .z | apply Pk.s | refine Ge.e ?_ | apply Ge.pick | apply Ge.drop) (hJr15 _ hpl)
        ·(try simp only [sH] at h177)
         have hpl : false = placeM n C yy.kind yy.x.blk := by unfold placeM; rw [h177]; simp
         refine yg0 rfl rfl rfl rfl ?_
         refine yg0 rfl rfl rfl rfl ?_
         refine yg0 rfl rfl rfl rfl ?_
         refine yg0 rfl rfl rfl rfl ?_
         refine yg0 rfl rfl rfl rfl ?_
         refine y (ev_pick0 rfl rfl) rfl ?_
         refine y (ev_assign rfl) rfl ?_
         refine ynil' (kthn ?_)
         exact ksub (by repeat first | exact sub_nil | refine sub_cons rfl ?_ | refine sub_cons' rfl (by simp) ?_) (by repeat first | exact .refl | exact .nil | exact .z | apply Pk.s | refine Ge.e ?_ | apply Ge.pick | apply Ge.drop) (hJr15 _ hpl)
       ·(try simp only [sH] at h172)
        have hpl : false = placeM n C yy.kind yy.x.blk := by unfold placeM; rw [decide_eq_false h172]; rfl
        refine yg0 rfl rfl rfl rfl ?_
        refine yg0 rfl rfl rfl rfl ?_
        refine y (ev_pick0 rfl rfl) rfl ?_
        refine y (ev_move rfl) rfl ?_
        refine yg0 rfl rfl rfl rfl ?_
        refine yg0 rfl rfl rfl rfl ?_
        refine yg0 rfl rfl rfl rfl ?_
        refine yg0 rfl rfl rfl rfl ?_
        refine yg0 rfl rfl rfl rfl ?_
        refine y (ev_pick0 rfl rfl) rfl ?_
        refine y (ev_assign rfl) rfl ?_
        refine ynil' (kthn ?_)
        exact ksub (by repeat first | exact sub_nil | refine sub_cons rfl ?_ | refine sub_cons' rfl (by simp) ?_) (by repeat first | exact .refl | exact .nil | exact .z | apply Pk.s | refine Ge.e ?_ | apply Ge.pick | apply Ge.drop) (hJr15 _ hpl)
     ·(try simp only [sH] at h26)
      refine cexit (kthx (kthx (kbx (kthn ?_))))
      exact ksub (by repeat first | exact sub_nil | refine sub_cons rfl ?_ | refine sub_cons' rfl (by simp) ?_) (by repeat first | exact .refl | exact .nil | exact .z | apply Pk.s | refine Ge.e ?_ | apply Ge.pick | apply Ge.drop) (hJ1 ⟨i, C, D, sl⟩ ⟨hI1o, by first | trivial | omega⟩)
    ·(try simp only [sH] at h22)
     refine yg0 rfl rfl rfl rfl ?_
     refine yg0 rfl rfl rfl rfl ?_
     refine y (ev_pick0 rfl rfl) rfl ?_
     refine ynil' (kthn (hK11 _ _ ?_))
     clear hK11
     refine ccond0 rfl ?_
     refine cexit (kthx (kthx (kbx (kthn ?_))))
     exact ksub (by repeat first | exact sub_nil | refine sub_cons rfl ?_ | refine sub_cons' rfl (by simp) ?_) (by repeat first | exact .refl | exact .nil | exact .z | apply Pk.s | refine Ge.e ?_ | apply Ge.pick | apply Ge.drop) (hJ1 ⟨i, C, D, sl⟩ ⟨hI1o, by first | trivial | omega⟩)
end W
end Go.Proofs
