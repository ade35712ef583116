/- A part of the proof: contracts and plain lemmas, each without conditions beyond those that it names. -/
import Derived.Test.YtediodfmkbfomaaGreatC15
set_option linter.unusedVariables false
set_option linter.unusedSimpArgs false
set_option linter.constructorNameAsVariable false
namespace Go.Proofs
open Go Go.Sl
namespace W
set_option linter.unusedVariables false
theorem told_one (s : Sv) (m : Nat) (a b c d e f : Int) : ∀ u ∈ [svVal s m, i64 a, i64 b, i64 c, i64 d, i64 e, i64 f], u.oneCell' = true := by
  intro u hu
  simp only [List.mem_cons, List.not_mem_nil, or_false] at hu
  rcases hu with rfl | rfl | rfl | rfl | rfl | rfl | rfl
  · exact svVal_one _ _
  all_goals rfl
abbrev toldL (s : Sv) (C : CaM) : List Value := [svVal s C.all.length, i64 C.k.e, i64 C.k.s, i64 C.k.t.a, i64 C.k.t.b, i64 C.k.t.c, i64 C.k.t.d]
theorem lawCErrors [Env] {R : List Seg} {bv : Int} {lv : Value} {acts : List ActC} (hb : 0 ≤ bv ∧ bv ≤ 255) (hl : RdV R lv acts.length (actcsV acts)) (haa : ∀ a ∈ acts, a.ok R) :
    Con Tryz.prog 5 [.int .u8 bv, lv] [] R (Is (.bool true) []) := by
  have hvl := hl.lenVal
  refine con_enter Tryz.func5 Tryz.ntmps5 rfl rfl ?_
  refine cseq ?_; intro K1 hK1
  refine creg ?_
  refine y (ev_assign rfl) rfl ?_
  refine ynil' (kthn (hK1 _ _ ?_))
  clear hK1
  refine cseq ?_; intro K2 hK2
  refine cseq ?_; intro K3 hK3
  refine creg ?_
  refine ycall (awake9) rfl Tryz.call11 (by repeat first | exact .nil | exact .z | apply Pk.s | apply Tk.cons) rfl ?_
  rintro v L' ⟨rfl, rfl⟩
  skip
  ·skip
   refine y (ev_not rfl) rfl ?_
   refine ynil' (kthn (hK3 _ _ ?_))
   clear hK3
   refine ccond0 rfl ?_
   refine cskip' (kthn (hK2 _ _ ?_))
   clear hK2
   refine cseq ?_; intro K4 hK4
   refine creg ?_
   refine y (ev_move rfl) rfl ?_
   refine ycall (nOpen9 ?ra5 ?rb5) rfl Tryz.call12 (by repeat first | exact .nil | exact .z | apply Pk.s | apply Tk.cons) rfl ?_
   case ra5 => exact hb.1
   case rb5 => exact hb.2
   rintro v L' ⟨q16, A16, sl16, C16, D16, rfl, hS16, hv16, ok16, rfl⟩
   obtain ⟨n8, n37⟩ := nCa_le bv
   generalize nCa bv = n at *
   generalize C16 = C0 at *
   generalize D16 = D0 at *
   refine y (ev_move rfl) rfl ?_
   refine y (ev_extract rfl rfl) rfl ?_
   refine y (ev_extract rfl rfl) rfl ?_
   refine y (ev_extract rfl rfl) rfl ?_
   refine y (ev_assign rfl) rfl ?_
   refine y (ev_assign rfl) rfl ?_
   refine y (ev_assign rfl) rfl ?_
   refine ynil' (kthn (hK4 _ _ ?_))
   clear hK4
   refine cseq ?_; intro K5 hK5
   refine cseq ?_; intro K6 hK6
   refine creg ?_
   refine y (ev_move rfl) rfl ?_
   skip
   ·skip
    refine y (ev_eqlPnil rfl rfl Tryz.underlying26) rfl ?_
    refine ynil' (kthn (hK6 _ _ ?_))
    clear hK6
    refine ccond0 rfl ?_
    refine cskip' (kthn (hK5 _ _ ?_))
    clear hK5
    refine cseq ?_; intro K7 hK7
    refine cseq ?_; intro K8 hK8
    refine creg ?_
    refine y (ev_assign rfl) rfl ?_
    refine ynil' (kthn (hK8 _ _ ?_))
    clear hK8
    have hJ1 : ∀ x : Nat × CaM × Dev × Sv, ((CaS 32 n (200 * x.1 + 1) x.2.1 x.2.2.1 ∧ itOk x.2.2.2 x.2.1.l ∧ x.1 ≤ acts.length ∧ x.1 ≤ 60) ∧ (True)) → Sk 74 K7 ([(8, i64 x.1), (6, ptr A16.p), (1, lv)]) ([caP A16 x.2.1, enS A16 x.2.1, puS A16 x.2.1, lgS A16 q16 x.2.2.2 x.2.1, dev q16 x.2.2.1] ++ R) := by
     rintro ⟨i, C, D, sl⟩ ⟨hI1, hX1⟩
     refine hK7 _ _ ?_
     obtain ⟨hS, hsl, hi1, hi2⟩ := hI1; dsimp only at hS hsl hi1 hi2 ⊢; have hal := all_le hS.g.ok; have hbl := hS.g.bl
     refine cseq ?_; intro K9 hK9
     refine creg ?_
     refine y (ev_assign rfl) rfl ?_
     refine ynil' (kthn (hK9 _ _ ?_))
     clear hK9
     refine cret ?_
     first
       | (exfalso; omega; done)
       | (refine kretv Tryz.results5 rfl (L1 := R) (by repeat first | exact .refl | exact .nil | exact .z | apply Pk.s | refine Ge.e ?_ | apply Ge.pick | apply Ge.drop) ?_
          exact ⟨_, ⟨by first | rfl | (exfalso; omega; done), rfl⟩, by first | rfl | (exfalso; omega; done)⟩)
    clear hK7
    refine cblock ?_
    refine cloop (A := Nat × CaM × Dev × Sv) (fun x => [(8, i64 x.1), (6, ptr A16.p), (1, lv)]) (fun x => [caP A16 x.2.1, enS A16 x.2.1, puS A16 x.2.1, lgS A16 q16 x.2.2.2 x.2.1, dev q16 x.2.2.1] ++ R) (fun x => CaS 32 n (200 * x.1 + 1) x.2.1 x.2.2.1 ∧ itOk x.2.2.2 x.2.1.l ∧ x.1 ≤ acts.length ∧ x.1 ≤ 60) (fun x => 60 - x.1) ((0, C0, D0, sl16)) ?_ (by repeat first | exact sub_nil | refine sub_cons rfl ?_ | refine sub_cons' rfl (by simp) ?_) (by repeat first | exact .refl | exact .nil | exact .z | apply Pk.s | refine Ge.e ?_ | apply Ge.pick | apply Ge.drop) ?_
    · exact ⟨hS16, ok16, Nat.zero_le _, Nat.zero_le _⟩
    rintro ⟨i, C, D, sl⟩ hI1 KL1 hL1
    have hI1o := hI1
    obtain ⟨hS, hsl, hi1, hi2⟩ := hI1; dsimp only at hS hsl hi1 hi2 ⊢; have hal := all_le hS.g.ok; have hbl := hS.g.bl
    refine cseq ?_; intro K10 hK10
    refine cseq ?_; intro K11 hK11
    refine creg ?_
    refine y (ev_move rfl) rfl ?_
    refine y (ev_move rfl) rfl ?_
    first
      | refine y (ev_len rfl Tryz.underlying55) rfl ?_
      | refine y (ev_lenSv rfl Tryz.underlying55 (by assumption)) rfl ?_
      | refine y (ev_lenV rfl Tryz.underlying55 (RdV.lenVal (by assumption))) rfl ?_
      | refine y (ev_lenV rfl Tryz.underlying55 (RdB.lenVal (by assumption))) rfl ?_
    refine y (ev_lss rfl rfl) rfl ?_
    refine y (ev_move rfl) rfl ?_
    refine ysplit 26 rfl (fun h22 => ?_) (fun h22 => ?_)
    ·(try simp only [sH] at h22)
     refine yg1 rfl rfl ?_
     refine y (ev_move rfl) rfl ?_
     refine yg1 rfl rfl ?_
     refine y (ev_lss rfl rfl) rfl ?_
     refine y (ev_pick1 rfl rfl) rfl ?_
     refine ynil' (kthn (hK11 _ _ ?_))
     clear hK11
     refine ccond rfl (fun h26 => ?_) (fun h26 => ?_)
     ·(try simp only [sH] at h26)
      refine cskip' (kthn (hK10 _ _ ?_))
      clear hK10
      refine cseq ?_; intro K12 hK12
      refine cblock ?_
      refine cseq ?_; intro K13 hK13
      refine creg ?_
      obtain ⟨yy, hy⟩ : ∃ yy, acts[i]? = some yy := ⟨_, List.getElem?_eq_getElem (by omega)⟩
      have hact := haa yy (List.mem_of_getElem? hy)
      refine y (ev_move rfl) rfl ?_
      refine y (ev_move rfl) rfl ?_
      refine y (ev_ixV hl rfl rfl Tryz.underlying55 Tryz.sizeOf59 (by omega) (by omega)) rfl ?_
      refine y (ev_loadNV (us := yy.cells) (i * 12) hl (by repeat first | exact .refl | exact .nil | exact .z | apply Pk.s | refine Ge.e ?_ | apply Ge.pick | apply Ge.drop) rfl Tryz.isAgg59 Tryz.sizeOf59 (by simp) (actcsV_get hy) rfl) rfl ?_
      refine ya (ac_alloc Tryz.zeroValue59 rfl) rfl ?_
      rintro v L' ⟨b9, rfl, rfl⟩
      refine ya0 (ac_storeAll rfl rfl hact.one Tryz.sizeOf59 (by repeat first | exact .z | apply Rp.s) (by rfl) (by rfl)) ?_
      rintro v L' ⟨rfl, rfl⟩
      refine ynil' (kthn (hK13 _ _ ?_))
      clear hK13
      refine cseq ?_; intro K14 hK14
      refine cseq ?_; intro K15 hK15
      refine creg ?_
      refine y (ev_loadN (u := yy.cells) rfl Tryz.isAgg59 Tryz.sizeOf59 (by repeat first | exact .z | apply In.s) rfl rfl) rfl ?_
      refine ycall (nLarge9 ?lx34) rfl Tryz.call24 (by repeat first | exact .nil | exact .z | apply Pk.s | apply Tk.cons) rfl ?_
      case lx34 => exact hact.mono (by repeat first | exact .refl | exact .nil | exact .z | apply Pk.s | refine Ge.e ?_ | apply Ge.pick | apply Ge.drop)
      rintro v L' ⟨big37, rfl, hbig37, rfl⟩
      refine ynil' (kthn (hK15 _ _ ?_))
      clear hK15
      refine ccond rfl (fun h35 => ?_) (fun h35 => ?_)
      ·(try simp only [sH] at h35)
       refine cseq ?_; intro K16 hK16
       refine creg ?_
       refine y (ev_assign rfl) rfl ?_
       refine ynil' (kthn (hK16 _ _ ?_))
       clear hK16
       refine cret (kthr (kbr (kthr (kthr (kbr (kthr ?_))))))
       first
         | (exfalso; omega; done)
         | (refine kretv Tryz.results5 rfl (L1 := R) (by repeat first | exact .refl | exact .nil | exact .z | apply Pk.s | refine Ge.e ?_ | apply Ge.pick | apply Ge.drop) ?_
            exact ⟨_, ⟨by first | rfl | (exfalso; omega; done), rfl⟩, by first | rfl | (exfalso; omega; done)⟩)
      ·(try simp only [sH] at h35)
       have hlg := hbig37 h35
       refine cskip' (kthn (hK14 _ _ ?_))
       clear hK14
       refine cseq ?_; intro K17 hK17
       refine creg ?_
       refine y (ev_move rfl) rfl ?_
       refine ycall (nTold (C := C) ?bl38) rfl Tryz.call22 (by repeat first | exact .nil | exact .z | apply Pk.s | apply Tk.cons) rfl ?_
       case bl38 => omega
       rintro v L' ⟨s39, rfl, ok39, rfl⟩
       refine ya (ac_alloc Tryz.zeroValue50 rfl) rfl ?_
       rintro v L' ⟨b10, rfl, rfl⟩
       refine ya0 (ac_storeAll rfl rfl (told_one _ _ _ _ _ _ _ _) Tryz.sizeOf50 (by repeat first | exact .z | apply Rp.s) rfl rfl) ?_
       rintro v L' ⟨rfl, rfl⟩
       refine ynil' (kthn (hK17 _ _ ?_))
       clear hK17
       refine cseq ?_; intro K18 hK18
       refine creg ?_
       refine y (ev_move rfl) rfl ?_
       refine y (ev_loadN (u := yy.cells) rfl Tryz.isAgg59 Tryz.sizeOf59 (by repeat first | exact .z | apply In.s) rfl rfl) rfl ?_
       refine ycall (nDo (C := C) (sl := sl) (q := q16) (D := D) (a := yy) ?cok43 ?its43 ?lx43 ?lt43) rfl Tryz.call25 (by repeat first | exact .nil | exact .z | apply Pk.s | apply Tk.cons) rfl ?_
       case cok43 => exact hS.g.ok
       case its43 => exact hsl
       case lx43 => exact hact.mono (by repeat first | exact .refl | exact .nil | exact .z | apply Pk.s | refine Ge.e ?_ | apply Ge.pick | apply Ge.drop)
       case lt43 => omega
       rintro v L' ⟨sl42, rfl, ok42, rfl⟩
       obtain ⟨hdid, hcode⟩ := hS.doM (by omega) (by omega) yy.kind yy.x yy.ts
       generalize doM C D yy.kind yy.x yy.ts = r at *
       obtain ⟨er, C', D'⟩ := r
       dsimp only at *
       have hS' := hdid.s
       have hno := hdid.no
       dsimp only at hS' hno
       refine y (ev_assign rfl) rfl ?_
       refine ynil' (kthn (hK18 _ _ ?_))
       clear hK18
       refine cseq ?_; intro K19 hK19
       refine cseq ?_; intro K20 hK20
       refine cdraw 6 [(0, true), (1, true), (2, true), (3, true), (5, true), (4, false)] (_) Tryz.mixed (by kernel_rfl) .refl ?_
       skip
       ·skip
        refine hr rfl (ev_move rfl) rfl ?_
        refine hr rfl (ev_neq rfl rfl) rfl ?_
        refine hr rfl (ev_move rfl) rfl ?_
        refine hsplit 45 rfl (fun h48 => ?_) (fun h48 => ?_)
        ·(try simp only [sH] at h48)
         have hCe := hno h48
         subst hCe
         refine hr1 rfl rfl rfl (ev_move rfl) rfl ?_
         refine hr1 rfl rfl rfl (ev_loadN (u := toldL s39 C') rfl Tryz.isAgg50 Tryz.sizeOf50 (by repeat first | exact .z | apply In.s) rfl rfl) rfl ?_
         refine hcall1 rfl rfl rfl (nTold (C := C') ?bl51) rfl Tryz.call22 (by repeat first | exact .nil | exact .z | apply Pk.s | apply Tk.cons) rfl ?_
         case bl51 => omega
         rintro v L' ⟨s47, rfl, ok47, rfl⟩; refine ⟨(by repeat first | exact .refl | exact .nil | exact .z | apply Pk.s | refine Ge.e ?_ | apply Ge.pick | apply Ge.drop), ?_⟩
         refine hnil ?_
         refine yg1 rfl rfl ?_
         refine ycall (nAlike (u1 := C'.all) (u2 := C'.all) (k1 := C'.k) (k2 := C'.k) ?ia52 ?ib52 ?ic52 ?id52) rfl Tryz.call21 (by repeat first | exact .nil | exact .z | apply Pk.s | apply Tk.cons) rfl ?_
         case ia52 => exact rdV_sv (by repeat first | exact .z | apply In.s) ok47
         case ib52 => exact rdV_sv (by repeat first | exact .z | apply In.s) ok39
         case ic52 => omega
         case id52 => omega
         rintro v L' ⟨rfl, rfl⟩
         rw [show decide (C'.all = C'.all ∧ C'.k = C'.k) = true by simp]
         refine yg1 rfl rfl ?_
         refine y (ev_not rfl) rfl ?_
         refine y (ev_pick1 rfl rfl) rfl ?_
         refine hnoP' (kthn (hK20 _ _ ?_))
         clear hK20
         refine ccond0 rfl ?_
         refine cskip' (kthn (hK19 _ _ ?_))
         clear hK19
         refine cseq ?_; intro K21 hK21
         refine creg ?_
         refine y (ev_move rfl) rfl ?_
         refine y (ev_neq rfl rfl) rfl ?_
         refine y (ev_move rfl) rfl ?_
         refine ysplit 54 rfl (fun h58 => ?_) (fun h58 => ?_)
         ·(try simp only [sH] at h58)
          refine yg1 rfl rfl ?_
          refine y (ev_move rfl) rfl ?_
          refine yg1 rfl rfl ?_
          refine y (ev_neq rfl rfl) rfl ?_
          refine y (ev_pick1 rfl rfl) rfl ?_
          refine y (ev_move rfl) rfl ?_
          refine ysplit 58 rfl (fun h63 => ?_) (fun h63 => ?_)
          ·(try simp only [sH] at h63)
           refine yg1 rfl rfl ?_
           refine y (ev_move rfl) rfl ?_
           refine yg1 rfl rfl ?_
           refine y (ev_neq rfl rfl) rfl ?_
           refine y (ev_pick1 rfl rfl) rfl ?_
           refine y (ev_move rfl) rfl ?_
           refine ysplit 62 rfl (fun h68 => ?_) (fun h68 => ?_)
           ·(try simp only [sH] at h68)
            refine yg1 rfl rfl ?_
            refine y (ev_move rfl) rfl ?_
            refine yg1 rfl rfl ?_
            refine y (ev_neq rfl rfl) rfl ?_
            refine y (ev_pick1 rfl rfl) rfl ?_
            refine y (ev_move rfl) rfl ?_
            refine ysplit 66 rfl (fun h73 => ?_) (fun h73 => ?_)
            ·(try simp only [sH] at h73)
             refine yg1 rfl rfl ?_
             refine y (ev_move rfl) rfl ?_
             refine yg1 rfl rfl ?_
             refine y (ev_neq rfl rfl) rfl ?_
             refine y (ev_pick1 rfl rfl) rfl ?_
             refine y (ev_move rfl) rfl ?_
             refine ysplit 70 rfl (fun h78 => ?_) (fun h78 => ?_)
             ·(try simp only [sH] at h78)
              refine yg1 rfl rfl ?_
              refine y (ev_move rfl) rfl ?_
              refine yg1 rfl rfl ?_
              refine y (ev_neq rfl rfl) rfl ?_
              refine y (ev_pick1 rfl rfl) rfl ?_
              refine ynil' (kthn (hK21 _ _ ?_))
              clear hK21
              refine ccond rfl (fun h82 => ?_) (fun h82 => ?_)
              ·(try simp only [sH] at h82)
               exfalso; omega
              ·(try simp only [sH] at h82)
               refine cskip' (kbn (kthn (hK12 _ _ ?_)))
               clear hK12
               refine creg ?_
               refine y (ev_move rfl) rfl ?_
               refine y (ev_add rfl rfl) rfl ?_
               rw [show IntKind.i64.wrap ((i:Int) + 1) = ((i+1 : Nat) : Int) by rw [wr (by omega) (by omega)]; rfl]
               refine y (ev_assign rfl) rfl ?_
               refine ynil' (kthn ?_)
               exact hL1 ((i + 1, C', D', sl42)) (⟨hS'.le (by omega), ok42, by dsimp only; omega, by dsimp only; omega⟩) (by dsimp only; omega) _ _ (by repeat first | exact sub_nil | refine sub_cons rfl ?_ | refine sub_cons' rfl (by simp) ?_) (by repeat first | exact .refl | exact .nil | exact .z | apply Pk.s | refine Ge.e ?_ | apply Ge.pick | apply Ge.drop)
             ·(try simp only [sH] at h78)
              refine yg0 rfl rfl rfl rfl ?_
              refine yg0 rfl rfl rfl rfl ?_
              refine y (ev_pick0 rfl rfl) rfl ?_
              refine ynil' (kthn (hK21 _ _ ?_))
              clear hK21
              refine ccond0 rfl ?_
              refine cskip' (kbn (kthn (hK12 _ _ ?_)))
              clear hK12
              refine creg ?_
              refine y (ev_move rfl) rfl ?_
              refine y (ev_add rfl rfl) rfl ?_
              rw [show IntKind.i64.wrap ((i:Int) + 1) = ((i+1 : Nat) : Int) by rw [wr (by omega) (by omega)]; rfl]
              refine y (ev_assign rfl) rfl ?_
              refine ynil' (kthn ?_)
              exact hL1 ((i + 1, C', D', sl42)) (⟨hS'.le (by omega), ok42, by dsimp only; omega, by dsimp only; omega⟩) (by dsimp only; omega) _ _ (by repeat first | exact sub_nil | refine sub_cons rfl ?_ | refine sub_cons' rfl (by simp) ?_) (by repeat first | exact .refl | exact .nil | exact .z | apply Pk.s | refine Ge.e ?_ | apply Ge.pick | apply Ge.drop)
            ·(try simp only [sH] at h73)
             refine yg0 rfl rfl rfl rfl ?_
             refine yg0 rfl rfl rfl rfl ?_
             refine y (ev_pick0 rfl rfl) rfl ?_
             refine y (ev_move rfl) rfl ?_
             refine yg0 rfl rfl rfl rfl ?_
             refine yg0 rfl rfl rfl rfl ?_
             refine y (ev_pick0 rfl rfl) rfl ?_
             refine ynil' (kthn (hK21 _ _ ?_))
             clear hK21
             refine ccond0 rfl ?_
             refine cskip' (kbn (kthn (hK12 _ _ ?_)))
             clear hK12
             refine creg ?_
             refine y (ev_move rfl) rfl ?_
             refine y (ev_add rfl rfl) rfl ?_
             rw [show IntKind.i64.wrap ((i:Int) + 1) = ((i+1 : Nat) : Int) by rw [wr (by omega) (by omega)]; rfl]
             refine y (ev_assign rfl) rfl ?_
             refine ynil' (kthn ?_)
             exact hL1 ((i + 1, C', D', sl42)) (⟨hS'.le (by omega), ok42, by dsimp only; omega, by dsimp only; omega⟩) (by dsimp only; omega) _ _ (by repeat first | exact sub_nil | refine sub_cons rfl ?_ | refine sub_cons' rfl (by simp) ?_) (by repeat first | exact .refl | exact .nil | exact .z | apply Pk.s | refine Ge.e ?_ | apply Ge.pick | apply Ge.drop)
           ·(try simp only [sH] at h68)
            refine yg0 rfl rfl rfl rfl ?_
            refine yg0 rfl rfl rfl rfl ?_
            refine y (ev_pick0 rfl rfl) rfl ?_
            refine y (ev_move rfl) rfl ?_
            refine yg0 rfl rfl rfl rfl ?_
            refine yg0 rfl rfl rfl rfl ?_
            refine y (ev_pick0 rfl rfl) rfl ?_
            refine y (ev_move rfl) rfl ?_
            refine yg0 rfl rfl rfl rfl ?_
            refine yg0 rfl rfl rfl rfl ?_
            refine y (ev_pick0 rfl rfl) rfl ?_
            refine ynil' (kthn (hK21 _ _ ?_))
            clear hK21
            refine ccond0 rfl ?_
            refine cskip' (kbn (kthn (hK12 _ _ ?_)))
            clear hK12
            refine creg ?_
            refine y (ev_move rfl) rfl ?_
            refine y (ev_add rfl rfl) rfl ?_
            rw [show IntKind.i64.wrap ((i:Int) + 1) = ((i+1 : Nat) : Int) by rw [wr (by omega) (by omega)]; rfl]
            refine y (ev_assign rfl) rfl ?_
            refine ynil' (kthn ?_)
            exact hL1 ((i + 1, C', D', sl42)) (⟨hS'.le (by omega), ok42, by dsimp only; omega, by dsimp only; omega⟩) (by dsimp only; omega) _ _ (by repeat first | exact sub_nil | refine sub_cons rfl ?_ | refine sub_cons' rfl (by simp) ?_) (by repeat first | exact .refl | exact .nil | exact .z | apply Pk.s | refine Ge.e ?_ | apply Ge.pick | apply Ge.drop)
          ·(try simp only [sH] at h63)
           refine yg0 rfl rfl rfl rfl ?_
           refine yg0 rfl rfl rfl rfl ?_
           refine y (ev_pick0 rfl rfl) rfl ?_
           refine y (ev_move rfl) rfl ?_
           refine yg0 rfl rfl rfl rfl ?_
           refine yg0 rfl rfl rfl rfl ?_
           refine y (ev_pick0 rfl rfl) rfl ?_
           refine y (ev_move rfl) rfl ?_
           refine yg0 rfl rfl rfl rfl ?_
           refine yg0 rfl rfl rfl rfl ?_
           refine y (ev_pick0 rfl rfl) rfl ?_
           refine y (ev_move rfl) rfl ?_
           refine yg0 rfl rfl rfl rfl ?_
           refine yg0 rfl rfl rfl rfl ?_
           refine y (ev_pick0 rfl rfl) rfl ?_
           refine ynil' (kthn (hK21 _ _ ?_))
           clear hK21
           refine ccond0 rfl ?_
           refine cskip' (kbn (kthn (hK12 _ _ ?_)))
           clear hK12
           refine creg ?_
           refine y (ev_move rfl) rfl ?_
           refine y (ev_add rfl rfl) rfl ?_
           rw [show IntKind.i64.wrap ((i:Int) + 1) = ((i+1 : Nat) : Int) by rw [wr (by omega) (by omega)]; rfl]
           refine y (ev_assign rfl) rfl ?_
           refine ynil' (kthn ?_)
           exact hL1 ((i + 1, C', D', sl42)) (⟨hS'.le (by omega), ok42, by dsimp only; omega, by dsimp only; omega⟩) (by dsimp only; omega) _ _ (by repeat first | exact sub_nil | refine sub_cons rfl ?_ | refine sub_cons' rfl (by simp) ?_) (by repeat first | exact .refl | exact .nil | exact .z | apply Pk.s | refine Ge.e ?_ | apply Ge.pick | apply Ge.drop)
         ·(try simp only [sH] at h58)
          refine yg0 rfl rfl rfl rfl ?_
          refine yg0 rfl rfl rfl rfl ?_
          refine y (ev_pick0 rfl rfl) rfl ?_
          refine y (ev_move rfl) rfl ?_
          refine yg0 rfl rfl rfl rfl ?_
          refine yg0 rfl rfl rfl rfl ?_
          refine y (ev_pick0 rfl rfl) rfl ?_
          refine y (ev_move rfl) rfl ?_
          refine yg0 rfl rfl rfl rfl ?_
          refine yg0 rfl rfl rfl rfl ?_
          refine y (ev_pick0 rfl rfl) rfl ?_
          refine y (ev_move rfl) rfl ?_
          refine yg0 rfl rfl rfl rfl ?_
          refine yg0 rfl rfl rfl rfl ?_
          refine y (ev_pick0 rfl rfl) rfl ?_
          refine y (ev_move rfl) rfl ?_
          refine yg0 rfl rfl rfl rfl ?_
          refine yg0 rfl rfl rfl rfl ?_
          refine y (ev_pick0 rfl rfl) rfl ?_
          refine ynil' (kthn (hK21 _ _ ?_))
          clear hK21
          refine ccond0 rfl ?_
          refine cskip' (kbn (kthn (hK12 _ _ ?_)))
          clear hK12
          refine creg ?_
          refine y (ev_move rfl) rfl ?_
          refine y (ev_add rfl rfl) rfl ?_
          rw [show IntKind.i64.wrap ((i:Int) + 1) = ((i+1 : Nat) : Int) by rw [wr (by omega) (by omega)]; rfl]
          refine y (ev_assign rfl) rfl ?_
          refine ynil' (kthn ?_)
          exact hL1 ((i + 1, C', D', sl42)) (⟨hS'.le (by omega), ok42, by dsimp only; omega, by dsimp only; omega⟩) (by dsimp only; omega) _ _ (by repeat first | exact sub_nil | refine sub_cons rfl ?_ | refine sub_cons' rfl (by simp) ?_) (by repeat first | exact .refl | exact .nil | exact .z | apply Pk.s | refine Ge.e ?_ | apply Ge.pick | apply Ge.drop)
        ·(try simp only [sH] at h48)
         refine hr0 rfl rfl rfl rfl rfl ?_
         refine hr0 rfl rfl rfl rfl rfl ?_
         refine ha0 rfl rfl rfl rfl rfl (by repeat first | exact .refl | exact .nil | exact .z | apply Pk.s | refine Ge.e ?_ | apply Ge.pick | apply Ge.drop) ?_
         refine hnil ?_
         refine yg0 rfl rfl rfl rfl ?_
         refine yg0 rfl rfl rfl rfl ?_
         refine y (ev_pick0 rfl rfl) rfl ?_
         refine hnoP' (kthn (hK20 _ _ ?_))
         clear hK20
         refine ccond0 rfl ?_
         refine cskip' (kthn (hK19 _ _ ?_))
         clear hK19
         refine cseq ?_; intro K22 hK22
         refine creg ?_
         refine y (ev_move rfl) rfl ?_
         refine y (ev_neq rfl rfl) rfl ?_
         refine y (ev_move rfl) rfl ?_
         refine ysplit 54 rfl (fun h130 => ?_) (fun h130 => ?_)
         ·(try simp only [sH] at h130)
          refine yg1 rfl rfl ?_
          refine y (ev_move rfl) rfl ?_
          refine yg1 rfl rfl ?_
          refine y (ev_neq rfl rfl) rfl ?_
          refine y (ev_pick1 rfl rfl) rfl ?_
          refine y (ev_move rfl) rfl ?_
          refine ysplit 58 rfl (fun h135 => ?_) (fun h135 => ?_)
          ·(try simp only [sH] at h135)
           refine yg1 rfl rfl ?_
           refine y (ev_move rfl) rfl ?_
           refine yg1 rfl rfl ?_
           refine y (ev_neq rfl rfl) rfl ?_
           refine y (ev_pick1 rfl rfl) rfl ?_
           refine y (ev_move rfl) rfl ?_
           refine ysplit 62 rfl (fun h140 => ?_) (fun h140 => ?_)
           ·(try simp only [sH] at h140)
            refine yg1 rfl rfl ?_
            refine y (ev_move rfl) rfl ?_
            refine yg1 rfl rfl ?_
            refine y (ev_neq rfl rfl) rfl ?_
            refine y (ev_pick1 rfl rfl) rfl ?_
            refine y (ev_move rfl) rfl ?_
            refine ysplit 66 rfl (fun h145 => ?_) (fun h145 => ?_)
            ·(try simp only [sH] at h145)
             refine yg1 rfl rfl ?_
             refine y (ev_move rfl) rfl ?_
             refine yg1 rfl rfl ?_
             refine y (ev_neq rfl rfl) rfl ?_
             refine y (ev_pick1 rfl rfl) rfl ?_
             refine y (ev_move rfl) rfl ?_
             refine ysplit 70 rfl (fun h150 => ?_) (fun h150 => ?_)
             ·(try simp only [sH] at h150)
              refine yg1 rfl rfl ?_
              refine y (ev_move rfl) rfl ?_
              refine yg1 rfl rfl ?_
              refine y (ev_neq rfl rfl) rfl ?_
              refine y (ev_pick1 rfl rfl) rfl ?_
              refine ynil' (kthn (hK22 _ _ ?_))
              clear hK22
              refine ccond rfl (fun h154 => ?_) (fun h154 => ?_)
              ·(try simp only [sH] at h154)
               exfalso; omega
              ·(try simp only [sH] at h154)
               refine cskip' (kbn (kthn (hK12 _ _ ?_)))
               clear hK12
               refine creg ?_
               refine y (ev_move rfl) rfl ?_
               refine y (ev_add rfl rfl) rfl ?_
               rw [show IntKind.i64.wrap ((i:Int) + 1) = ((i+1 : Nat) : Int) by rw [wr (by omega) (by omega)]; rfl]
               refine y (ev_assign rfl) rfl ?_
               refine ynil' (kthn ?_)
               exact hL1 ((i + 1, C', D', sl42)) (⟨hS'.le (by omega), ok42, by dsimp only; omega, by dsimp only; omega⟩) (by dsimp only; omega) _ _ (by repeat first | exact sub_nil | refine sub_cons rfl ?_ | refine sub_cons' rfl (by simp) ?_) (by repeat first | exact .refl | exact .nil | exact .z | apply Pk.s | refine Ge.e ?_ | apply Ge.pick | apply Ge.drop)
             ·(try simp only [sH] at h150)
              refine yg0 rfl rfl rfl rfl ?_
              refine yg0 rfl rfl rfl rfl ?_
              refine y (ev_pick0 rfl rfl) rfl ?_
              refine ynil' (kthn (hK22 _ _ ?_))
              clear hK22
              refine ccond0 rfl ?_
              refine cskip' (kbn (kthn (hK12 _ _ ?_)))
              clear hK12
              refine creg ?_
              refine y (ev_move rfl) rfl ?_
              refine y (ev_add rfl rfl) rfl ?_
              rw [show IntKind.i64.wrap ((i:Int) + 1) = ((i+1 : Nat) : Int) by rw [wr (by omega) (by omega)]; rfl]
              refine y (ev_assign rfl) rfl ?_
              refine ynil' (kthn ?_)
              exact hL1 ((i + 1, C', D', sl42)) (⟨hS'.le (by omega), ok42, by dsimp only; omega, by dsimp only; omega⟩) (by dsimp only; omega) _ _ (by repeat first | exact sub_nil | refine sub_cons rfl ?_ | refine sub_cons' rfl (by simp) ?_) (by repeat first | exact .refl | exact .nil | exact .z | apply Pk.s | refine Ge.e ?_ | apply Ge.pick | apply Ge.drop)
            ·(try simp only [sH] at h145)
             refine yg0 rfl rfl rfl rfl ?_
             refine yg0 rfl rfl rfl rfl ?_
             refine y (ev_pick0 rfl rfl) rfl ?_
             refine y (ev_move rfl) rfl ?_
             refine yg0 rfl rfl rfl rfl ?_
             refine yg0 rfl rfl rfl rfl ?_
             refine y (ev_pick0 rfl rfl) rfl ?_
             refine ynil' (kthn (hK22 _ _ ?_))
             clear hK22
             refine ccond0 rfl ?_
             refine cskip' (kbn (kthn (hK12 _ _ ?_)))
             clear hK12
             refine creg ?_
             refine y (ev_move rfl) rfl ?_
             refine y (ev_add rfl rfl) rfl ?_
             rw [show IntKind.i64.wrap ((i:Int) + 1) = ((i+1 : Nat) : Int) by rw [wr (by omega) (by omega)]; rfl]
             refine y (ev_assign rfl) rfl ?_
             refine ynil' (kthn ?_)
             exact hL1 ((i + 1, C', D', sl42)) (⟨hS'.le (by omega), ok42, by dsimp only; omega, by dsimp only; omega⟩) (by dsimp only; omega) _ _ (by repeat first | exact sub_nil | refine sub_cons rfl ?_ | refine sub_cons' rfl (by simp) ?_) (by repeat first | exact .refl | exact .nil | exact .z | apply Pk.s | refine Ge.e ?_ | apply Ge.pick | apply Ge.drop)
           ·(try simp only [sH] at h140)
            refine yg0 rfl rfl rfl rfl ?_
            refine yg0 rfl rfl rfl rfl ?_
            refine y (ev_pick0 rfl rfl) rfl ?_
            refine y (ev_move rfl) rfl ?_
            refine yg0 rfl rfl rfl rfl ?_
            refine yg0 rfl rfl rfl rfl ?_
            refine y (ev_pick0 rfl rfl) rfl ?_
            refine y (ev_move rfl) rfl ?_
            refine yg0 rfl rfl rfl rfl ?_
            refine yg0 rfl rfl rfl rfl ?_
            refine y (ev_pick0 rfl rfl) rfl ?_
            refine ynil' (kthn (hK22 _ _ ?_))
            clear hK22
            refine ccond0 rfl ?_
            refine cskip' (kbn (kthn (hK12 _ _ ?_)))
            clear hK12
            refine creg ?_
            refine y (ev_move rfl) rfl ?_
            refine y (ev_add rfl rfl) rfl ?_
            rw [show IntKind.i64.wrap ((i:Int) + 1) = ((i+1 : Nat) : Int) by rw [wr (by omega) (by omega)]; rfl]
            refine y (ev_assign rfl) rfl ?_
            refine ynil' (kthn ?_)
            exact hL1 ((i + 1, C', D', sl42)) (⟨hS'.le (by omega), ok42, by dsimp only; omega, by dsimp only; omega⟩) (by dsimp only; omega) _ _ (by repeat first | exact sub_nil | refine sub_cons rfl ?_ | refine sub_cons' rfl (by simp) ?_) (by repeat first | exact .refl | exact .nil | exact .z | apply Pk.s | refine Ge.e ?_ | apply Ge.pick | apply Ge.drop)
          ·(try simp only [sH] at h135)
           refine yg0 rfl rfl rfl rfl ?_
           refine yg0 rfl rfl rfl rfl ?_
           refine y (ev_pick0 rfl rfl) rfl ?_
           refine y (ev_move rfl) rfl ?_
           refine yg0 rfl rfl rfl rfl ?_
           refine yg0 rfl rfl rfl rfl ?_
           refine y (ev_pick0 rfl rfl) rfl ?_
           refine y (ev_move rfl) rfl ?_
           refine yg0 rfl rfl rfl rfl ?_
           refine yg0 rfl rfl rfl rfl ?_
           refine y (ev_pick0 rfl rfl) rfl ?_
           refine y (ev_move rfl) rfl ?_
           refine yg0 rfl rfl rfl rfl ?_
           refine yg0 rfl rfl rfl rfl ?_
           refine y (ev_pick0 rfl rfl) rfl ?_
           refine ynil' (kthn (hK22 _ _ ?_))
           clear hK22
           refine ccond0 rfl ?_
           refine cskip' (kbn (kthn (hK12 _ _ ?_)))
           clear hK12
           refine creg ?_
           refine y (ev_move rfl) rfl ?_
           refine y (ev_add rfl rfl) rfl ?_
           rw [show IntKind.i64.wrap ((i:Int) + 1) = ((i+1 : Nat) : Int) by rw [wr (by omega) (by omega)]; rfl]
           refine y (ev_assign rfl) rfl ?_
           refine ynil' (kthn ?_)
           exact hL1 ((i + 1, C', D', sl42)) (⟨hS'.le (by omega), ok42, by dsimp only; omega, by dsimp only; omega⟩) (by dsimp only; omega) _ _ (by repeat first | exact sub_nil | refine sub_cons rfl ?_ | refine sub_cons' rfl (by simp) ?_) (by repeat first | exact .refl | exact .nil | exact .z | apply Pk.s | refine Ge.e ?_ | apply Ge.pick | apply Ge.drop)
         ·(try simp only [sH] at h130)
          refine yg0 rfl rfl rfl rfl ?_
          refine yg0 rfl rfl rfl rfl ?_
          refine y (ev_pick0 rfl rfl) rfl ?_
          refine y (ev_move rfl) rfl ?_
          refine yg0 rfl rfl rfl rfl ?_
          refine yg0 rfl rfl rfl rfl ?_
          refine y (ev_pick0 rfl rfl) rfl ?_
          refine y (ev_move rfl) rfl ?_
          refine yg0 rfl rfl rfl rfl ?_
          refine yg0 rfl rfl rfl rfl ?_
          refine y (ev_pick0 rfl rfl) rfl ?_
          refine y (ev_move rfl) rfl ?_
          refine yg0 rfl rfl rfl rfl ?_
          refine yg0 rfl rfl rfl rfl ?_
          refine y (ev_pick0 rfl rfl) rfl ?_
          refine y (ev_move rfl) rfl ?_
          refine yg0 rfl rfl rfl rfl ?_
          refine yg0 rfl rfl rfl rfl ?_
          refine y (ev_pick0 rfl rfl) rfl ?_
          refine ynil' (kthn (hK22 _ _ ?_))
          clear hK22
          refine ccond0 rfl ?_
          refine cskip' (kbn (kthn (hK12 _ _ ?_)))
          clear hK12
          refine creg ?_
          refine y (ev_move rfl) rfl ?_
          refine y (ev_add rfl rfl) rfl ?_
          rw [show IntKind.i64.wrap ((i:Int) + 1) = ((i+1 : Nat) : Int) by rw [wr (by omega) (by omega)]; rfl]
          refine y (ev_assign rfl) rfl ?_
          refine ynil' (kthn ?_)
          exact hL1 ((i + 1, C', D', sl42)) (⟨hS'.le (by omega), ok42, by dsimp only; omega, by dsimp only; omega⟩) (by dsimp only; omega) _ _ (by repeat first | exact sub_nil | refine sub_cons rfl ?_ | refine sub_cons' rfl (by simp) ?_) (by repeat first | exact .refl | exact .nil | exact .z | apply Pk.s | refine Ge.e ?_ | apply Ge.pick | apply Ge.drop)
     ·(try simp only [sH] at h26)
      refine cexit (kthx (kthx (kbx (kthn ?_))))
      exact ksub (by repeat first | exact sub_nil | refine sub_cons rfl ?_ | refine sub_cons' rfl (by simp) ?_) (by repeat first | exact .refl | exact .nil | exact .z | apply Pk.s | refine Ge.e ?_ | apply Ge.pick | apply Ge.drop) (hJ1 ⟨i, C, D, sl⟩ ⟨hI1o, by first | trivial | omega⟩)
    ·(try simp only [sH] at h22)
     refine yg0 rfl rfl rfl rfl ?_
     refine yg0 rfl rfl rfl rfl ?_
     refine y (ev_pick0 rfl rfl) rfl ?_
     refine ynil' (kthn (hK11 _ _ ?_))
     clear hK11
     refine ccond0 rfl ?_
     refine cexit (kthx (kthx (kbx (kthn ?_))))
     exact ksub (by repeat first | exact sub_nil | refine sub_cons rfl ?_ | refine sub_cons' rfl (by simp) ?_) (by repeat first | exact .refl | exact .nil | exact .z | apply Pk.s | refine Ge.e ?_ | apply Ge.pick | apply Ge.drop) (hJ1 ⟨i, C, D, sl⟩ ⟨hI1o, by first | trivial | omega⟩)
end W
end Go.Proofs
