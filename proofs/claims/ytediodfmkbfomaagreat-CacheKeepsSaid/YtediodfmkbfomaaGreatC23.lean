/- A part of the proof: contracts and plain lemmas, each without conditions beyond those that it names. -/
import Derived.Test.YtediodfmkbfomaaGreatSlAt
set_option linter.unusedVariables false
set_option linter.unusedSimpArgs false
set_option linter.constructorNameAsVariable false
namespace Go.Proofs
open Go Go.Sl
namespace W
set_option linter.unusedVariables false
theorem wsS_one (T : TypeId) (x : Sv × List EntM × KeptM) : svSeg x.1 T (entsV x.2.1) = wsS T [x] := by simp [wsS]
theorem kp_one {n k : Nat} {A : CaA} {sl : Sv} {C : CaM} {D : Dev} {b : Nat} {s : Sv} {z : Nat} (hg : CGo (cp9 n) k C D [(C.all, C.k)]) (hok : C.ok D) (hb : C.bl = 32) (hn : C.n = n) (hi : itOk sl C.l) (hs : svOk s C.all.length 7 (entsV C.all)) (hz : 1 ≤ z) :
   KpOk n k z ⟨A, sl, C, D, some (b, 1, [], []), [(s, C.all, C.k)]⟩ :=
 ⟨hg, hok, hb, hn, hi, ⟨Nat.le_refl _, by show (1 : Nat) ≤ maxLen; decide, rfl, by simp [wsV, wCells]⟩, ⟨fun x hx => by simp at hx; subst hx; exact ⟨hs, all_le hok⟩⟩, hz⟩
theorem two_max {ws : Ws} {x : Sv × List EntM × KeptM} : ∀ y ∈ wsW ws, y ∈ wsW (ws ++ [x]) := fun y hy => by unfold wsW at *; rw [List.map_append]; exact List.mem_append_left _ hy
theorem last_in {ws : Ws} {x : Sv × List EntM × KeptM} : x.2 ∈ wsW (ws ++ [x]) := by unfold wsW; simp
set_option maxHeartbeats 4000000 in
theorem lawCKeeps [Env] {R : List Seg} {bv : Int} {lv : Value} {acts : List ActC} (hb : 0 ≤ bv ∧ bv ≤ 255) (hl : RdV R lv acts.length (actcsV acts)) (haa : ∀ a ∈ acts, a.ok R) :
   Con Tryz.prog 10 [.int .u8 bv, lv] [] R (Is (.bool true) []) := by
 have hvl := hl.lenVal
 refine con_enter Tryz.func10 Tryz.ntmps10 rfl rfl ?_
 refine cseq ?_; intro K1 hK1
 refine creg ?_
 refine yas ?_
 refine ynil' (kthn (hK1 _ _ ?_))
 clear hK1
 refine cseq ?_; intro K2 hK2
 refine cseq ?_; intro K3 hK3
 refine creg ?_
 refine ycall (awake9) rfl Tryz.call11 ztk rfl ?_
 rintro v L' ⟨rfl, rfl⟩
 skip
 ·skip
  refine y (ev_not rfl) rfl ?_
  refine ynil' (kthn (hK3 _ _ ?_))
  clear hK3
  refine ccond0 rfl ?_
  refine cskip' (kthn (hK2 _ _ ?_))
  clear hK2
  refine cseq ?_; intro K4 hK4
  refine creg ?_
  refine ymv ?_
  refine ycall (nOpenK hb.1 hb.2) rfl Tryz.call12 ztk rfl ?_
  rintro v L' ⟨q26, A26, sl26, C26, D26, rfl, hG26, hS26, ok26, rfl⟩
  obtain ⟨n8, n37⟩ := nCa_le bv
  have hok26 := hS26.g.ok
  have hbl26 := hS26.g.bl
  have hnn26 := hS26.g.nn
  generalize nCa bv = n at *
  refine ymv ?_
  refine yxt ?_
  refine yxt ?_
  refine yxt ?_
  refine yas ?_
  refine yas ?_
  refine yas ?_
  refine ynil' (kthn (hK4 _ _ ?_))
  clear hK4
  refine cseq ?_; intro K5 hK5
  refine cseq ?_; intro K6 hK6
  refine creg ?_
  refine ymv ?_
  skip
  ·skip
   refine y (ev_eqlPnil rfl rfl Tryz.underlying26) rfl ?_
   refine ynil' (kthn (hK6 _ _ ?_))
   clear hK6
   refine ccond0 rfl ?_
   refine cskip' (kthn (hK5 _ _ ?_))
   clear hK5
   refine cseq ?_; intro K7 hK7
   refine creg ?_
   refine ymv ?_
   refine ycall (nTold ?bl16) rfl Tryz.call22 ztk rfl ?_
   case bl16 => omega
   rintro v L' ⟨s33, rfl, ok33, rfl⟩
   refine ya (ac_bsliceR rfl Tryz.underlying68 Tryz.sizeOf50 Tryz.zeroValue50 rfl rfl rfl rfl ⟨⟨_, _, rfl, (by first | rfl | simp), (by first | decide | simp)⟩, trivial⟩ (by dsimp [fillL, splice, vcells, reps] <;> rfl)) rfl ?_
   rintro v L' ⟨b34, rfl, rfl⟩
   refine yas ?_
   refine ynil' (kthn (hK7 _ _ ?_))
   clear hK7
   refine cseq ?_; intro K8 hK8
   refine cseq ?_; intro K9 hK9
   refine creg ?_
   have hK0 : KpOk n 1 1 ⟨A26, sl26, C26, D26, some (b34, 1, [], []), [(s33, C26.all, C26.k)]⟩ := kp_one hG26 hok26 hbl26 hnn26 ok26 ok33 (Nat.le_refl _)
   rw [show svSeg s33 34 (entsV C26.all) = wsS 34 [(s33, C26.all, C26.k)] from wsS_one _ (s33, C26.all, C26.k)]
   refine yas ?_
   refine ynil' (kthn (hK9 _ _ ?_))
   clear hK9
   refine cblock ?_
   refine cloop (A := Nat × KpM) (fun x => [(9, i64 x.1), (8, ovVal x.2.ov x.2.ws.length), (7, i64 n), (6, ptr x.2.A.p), (5, dp q26), (1, lv)]) (fun x => [ovSeg x.2.ov 50 (wsV x.2.ws), wsS 34 x.2.ws, caP x.2.A x.2.C, enS x.2.A x.2.C, puS x.2.A x.2.C, lgS x.2.A q26 x.2.sl x.2.C, dev q26 x.2.D] ++ R) (fun x => KpOk n (2201 * x.1 + 1) (40 * x.1 + 1) x.2 ∧ x.1 ≤ acts.length ∧ x.1 ≤ 60) (fun x => acts.length - x.1) ((0, ⟨A26, sl26, C26, D26, some (b34, 1, [], []), [(s33, C26.all, C26.k)]⟩)) ?_ zsub zge ?_
   · exact ⟨hK0, Nat.zero_le _, Nat.zero_le _⟩
   rintro ⟨i, A, sl, C, D, ov, ws⟩ hI1 KL1 hL1
   obtain ⟨hK, hi1, hi2⟩ := hI1; dsimp only at hK hi1 hi2 ⊢
   have hok := hK.ok; have hbl := hK.bl; have hnn := hK.nn; have hit := hK.it; have hov := hK.ov; have hws := hK.ws; have hlen := hK.len; have hgo := hK.go
   dsimp only at hok hbl hnn hit hov hws hlen hgo
   have hal := all_le hok
   refine cseq ?_; intro K10 hK10
   refine cseq ?_; intro K11 hK11
   refine creg ?_
   refine ymv ?_
   refine ymv ?_
   first
     | refine y (ev_len rfl Tryz.underlying55) rfl ?_
     | refine y (ev_lenSv rfl Tryz.underlying55 (by assumption)) rfl ?_
     | refine y (ev_lenV rfl Tryz.underlying55 (RdV.lenVal (by assumption))) rfl ?_
     | refine y (ev_lenV rfl Tryz.underlying55 (RdB.lenVal (by assumption))) rfl ?_
   refine y (ev_lss rfl rfl) rfl ?_
   refine ymv ?_
   refine ysplit 39 rfl (fun h25 => ?_) (fun h25 => ?_)
   ·(try simp only [sH] at h25)
    refine ygo ?_
    refine ymv ?_
    refine ygo ?_
    refine y (ev_lss rfl rfl) rfl ?_
    refine ypa ?_
    refine ynil' (kthn (hK11 _ _ ?_))
    clear hK11
    refine ccond rfl (fun h29 => ?_) (fun h29 => ?_)
    ·(try simp only [sH] at h29)
     refine cskip' (kthn (hK10 _ _ ?_))
     clear hK10
     refine cseq ?_; intro K12 hK12
     have hJr9 : ∀ x : KpM, (KpOk n (2201 * (i + 1) + 1) (40 * (i + 1) + 1) x ∧ i < acts.length ∧ i < 60) → Sk 169 K12 ([(9, i64 i), (8, ovVal x.ov x.ws.length), (7, i64 n), (6, ptr x.A.p), (5, dp q26), (1, lv)]) ([ovSeg x.ov 50 (wsV x.ws), wsS 34 x.ws, caP x.A x.C, enS x.A x.C, puS x.A x.C, lgS x.A q26 x.sl x.C, dev q26 x.D] ++ R) := by
      rintro xj hIr9
      refine hK12 _ _ ?_
      obtain ⟨hK2, hi3, hi4⟩ := hIr9
      refine creg ?_
      refine ymv ?_
      refine y (ev_add rfl rfl) rfl ?_
      rw [show IntKind.i64.wrap ((i:Int) + 1) = ((i+1 : Nat) : Int) by rw [wr (by omega) (by omega)]; rfl]
      refine yas ?_
      refine ynil' (kthn ?_)
      exact hL1 (i + 1, xj) ⟨hK2, by dsimp only; omega, by dsimp only; omega⟩ (by dsimp only; omega) _ _ zsub zge
     clear hK12
     refine cblock ?_
     refine cseq ?_; intro K13 hK13
     refine creg ?_
     obtain ⟨yy, hy⟩ : ∃ yy, acts[i]? = some yy := ⟨_, List.getElem?_eq_getElem (by omega)⟩
     have hact := haa yy (List.mem_of_getElem? hy)
     refine ymv ?_
     refine ymv ?_
     refine y (ev_ixV hl rfl rfl Tryz.underlying55 Tryz.sizeOf59 (by omega) (by omega)) rfl ?_
     refine y (ev_loadNV (us := yy.cells) (i * 12) hl zge rfl Tryz.isAgg59 Tryz.sizeOf59 (by simp) (actcsV_get hy) rfl) rfl ?_
     refine ya (ac_alloc Tryz.zeroValue59 rfl) rfl ?_
     rintro v L' ⟨b10, rfl, rfl⟩
     refine ya0 (ac_storeAll rfl rfl hact.one Tryz.sizeOf59 zrp rfl rfl) ?_
     rintro v L' ⟨rfl, rfl⟩
     refine ynil' (kthn (hK13 _ _ ?_))
     clear hK13
     refine cseq ?_; intro K14 hK14
     refine cseq ?_; intro K15 hK15
     refine creg ?_
     refine y (ev_loadN (u := yy.cells) rfl Tryz.isAgg59 Tryz.sizeOf59 zin rfl rfl) rfl ?_
     refine ycall (nLarge9 (x := yy) ?lx40) rfl Tryz.call24 ztk rfl ?_
     case lx40 => exact hact.mono zge
     rintro v L' ⟨big50, rfl, hbig50, rfl⟩
     refine ynil' (kthn (hK15 _ _ ?_))
     clear hK15
     refine ccond rfl (fun h41 => ?_) (fun h41 => ?_)
     ·(try simp only [sH] at h41)
      refine cseq ?_; intro K16 hK16
      refine creg ?_
      refine yas ?_
      refine ynil' (kthn (hK16 _ _ ?_))
      clear hK16
      refine cret (kthr (kbr (kthr (kthr (kbr (kthr ?_))))))
      first
        | (exfalso; omega; done)
        | (refine kretv Tryz.results10 rfl (L1 := R) zge ?_
           exact ⟨_, ⟨by first | rfl | (exfalso; simp_all; done), rfl⟩, by first | rfl | (exfalso; simp_all; done)⟩)
     ·(try simp only [sH] at h41)
      have hlg := hbig50 h41
      refine cskip' (kthn (hK14 _ _ ?_))
      clear hK14
      refine cseq ?_; intro K17 hK17
      refine cseq ?_; intro K18 hK18
      refine creg ?_
      refine y (ev_fieldAddr 0 rfl Tryz.underlying59 rfl Tryz.sizeOf3) rfl ?_
      refine y (ev_load rfl Tryz.isAgg3 zin rfl) rfl ?_
      refine ynil' (kthn (hK18 _ _ ?_))
      clear hK18
      refine cblock ?_
      refine cseq ?_; intro K19 hK19
      refine creg ?_
      refine y (ev_eql rfl rfl) rfl ?_
      refine yas ?_
      refine ynil' (kthn (hK19 _ _ ?_))
      clear hK19
      refine ccond rfl (fun h47 => ?_) (fun h47 => ?_)
      ·(try simp only [sH] at h47)
       refine cseq ?_; intro K20 hK20
       refine creg ?_
       refine ymv ?_
       refine y (ev_fieldAddr 1 rfl Tryz.underlying59 rfl Tryz.sizeOf3) rfl ?_
       refine y (ev_load rfl Tryz.isAgg3 zin rfl) rfl ?_
       refine ycall (secFuse) rfl Tryz.call30 ztk rfl ?_
       rintro v L' ⟨rfl, rfl⟩
       have hj : KpOk n (2201 * (i + 1) + 1) (40 * (i + 1) + 1) ⟨A, sl, C, D.setFuse yy.n, ov, ws⟩ := ⟨(hgo.fuse hact.n.2).le (by omega), hok.fuse hact.n.2, hbl, hnn, hit, hov, hws, by dsimp only; omega⟩
       refine ynil' (kthn (hK20 _ _ ?_))
       clear hK20
       refine cexit (kbp rfl (kthx (kbx (kthn ?_))))
       exact ksub zsub zge (hJr9 _ ⟨hj, by omega, by omega⟩)
      ·(try simp only [sH] at h47)
       refine cseq ?_; intro K21 hK21
       refine creg ?_
       refine y (ev_eql rfl rfl) rfl ?_
       refine yas ?_
       refine ynil' (kthn (hK21 _ _ ?_))
       clear hK21
       refine ccond rfl (fun h54 => ?_) (fun h54 => ?_)
       ·(try simp only [sH] at h54)
        refine cseq ?_; intro K22 hK22
        refine creg ?_
        refine ya (ac_bslice0 Tryz.underlying57 Tryz.sizeOf71) rfl ?_
        rintro v L' ⟨b61, rfl, rfl⟩
        refine y (ev_fieldAddr 11 rfl Tryz.underlying59 rfl Tryz.sizeOf57) rfl ?_
        refine y (ev_load rfl Tryz.isAgg57 zin rfl) rfl ?_
        refine ya (ac_append (s := some (b61, 0, [])) (xs := []) (m := 0) (k := yy.ks.length) (us := keepsV yy.ks) (size := 2) rfl rfl (by repeat first | exact .z | apply Pk.s) Tryz.underlying57 Tryz.underlying57 (by intro q hq; cases hq) Tryz.typeInfo71 rfl rfl rfl ?ok58 ?src58 ?one58 ?big58) rfl ?_
        case ok58 => exact ⟨by decide, by decide, rfl, rfl⟩
        case src58 => exact (hact.keeps.mono zge).src (keepsV_len2 _)
        case one58 => exact keepsV_one _
        case big58 => show (_ + _) * 17 ≤ _; omega
        rintro v L' ⟨s64, rfl, ok64, rfl⟩
        rw [Nat.zero_add, List.nil_append] at ok64 ⊢
        refine yas ?_
        refine ynil' (kthn (hK22 _ _ ?_))
        clear hK22
        refine cseq ?_; intro K23 hK23
        refine cseq ?_; intro K24 hK24
        refine creg ?_
        refine ymv ?_
        first
          | refine y (ev_len rfl Tryz.underlying57) rfl ?_
          | refine y (ev_lenSv rfl Tryz.underlying57 (by assumption)) rfl ?_
          | refine y (ev_lenV rfl Tryz.underlying57 (RdV.lenVal (by assumption))) rfl ?_
          | refine y (ev_lenV rfl Tryz.underlying57 (RdB.lenVal (by assumption))) rfl ?_
        refine ymv ?_
        refine ynil' (kthn (hK24 _ _ ?_))
        clear hK24
        have hJ2 : ∀ z : Nat, ((z ≤ yy.ks.length) ∧ (z = yy.ks.length)) → Sk 169 K23 ([(67, i64 z), (66, i64 yy.ks.length), (11, svVal s64 yy.ks.length), (9, i64 i), (8, ovVal ov ws.length), (7, i64 n), (6, ptr A.p), (5, dp q26), (1, lv)]) ([svSeg s64 71 (keepsV (maskN yy.ks z)), ovSeg ov 50 (wsV ws), wsS 34 ws, dev q26 D] ++ R) := by
         rintro k ⟨hI2, hX2⟩
         refine hK23 _ _ ?_
         have hkI := hI2
         have hk1 := hX2; subst hk1; rw [maskN_all]
         refine cseq ?_; intro K25 hK25
         refine creg ?_
         refine ymv ?_
         refine ymv ?_
         refine ycall (secCrash (ks := maskK yy.ks) ?ok65 ?ks65) rfl Tryz.call31 ztk rfl ?_
         case ok65 => exact hok.d
         case ks65 => rw [maskK_len]; exact rdV_sv zin (svOk_same ok64 (by rw [keepsV_len2, keepsV_len2, maskK_len]))
         rintro v L' ⟨rfl, rfl⟩
         obtain ⟨C1, D1, hop, hcl, hin1, -⟩ := hgo.crash (by omega) n8 ⟨by show (1 : Nat) ≤ 32; decide, Nat.le_refl _⟩ (maskK_no2 yy.ks)
         have hop : caOpen (D.crash (maskK yy.ks)) 2 n 0 1 32 = (0, C1, D1) := hop
         obtain ⟨hok1, hbl1, hnn1, -⟩ := hcl.ok
         have hbl1 : C1.bl = 32 := hbl1
         have hnn1 : C1.n = n := hnn1
         have hal1 := all_le hok1
         refine ynil' (kthn (hK25 _ _ ?_))
         clear hK25
         refine cseq ?_; intro K26 hK26
         refine creg ?_
         refine ymv ?_
         refine ymv ?_
         refine ycall (kOpenY (Dev.crash_ok hok.d _) (by decide) (by decide) hop) rfl Tryz.call20 ztk rfl ?_
         rintro v L' ⟨A1, sl1, rfl, ok1, rfl⟩
         refine ymv ?_
         refine yxt ?_
         refine yxt ?_
         refine yas ?_
         refine yas ?_
         refine ynil' (kthn (hK26 _ _ ?_))
         clear hK26
         refine cseq ?_; intro K27 hK27
         refine cseq ?_; intro K28 hK28
         refine creg ?_
         refine ymv ?_
         skip
         ·skip
          refine y (ev_eqlPnil rfl rfl Tryz.underlying26) rfl ?_
          refine ymv ?_
          refine ygo ?_
          refine ymv ?_
          refine ygo ?_
          refine y (ev_neq rfl rfl) rfl ?_
          refine ypb ?_
          refine ynil' (kthn (hK28 _ _ ?_))
          clear hK28
          refine ccond0 rfl ?_
          refine cskip' (kthn (hK27 _ _ ?_))
          clear hK27
          refine cseq ?_; intro K29 hK29
          refine creg ?_
          refine ymv ?_
          refine ycall (nTold (C := C1) ?bl81) rfl Tryz.call22 ztk rfl ?_
          case bl81 => rw [hbl1]; decide
          rintro v L' ⟨s95, rfl, ok95, rfl⟩
          refine ya (ac_alloc Tryz.zeroValue50 rfl) rfl ?_
          rintro v L' ⟨b15, rfl, rfl⟩
          refine ya0 (ac_storeAll rfl rfl (told_one' _ _ _ _ _ _ _ _) Tryz.sizeOf50 zrp rfl rfl) ?_
          rintro v L' ⟨rfl, rfl⟩
          refine ynil' (kthn (hK29 _ _ ?_))
          clear hK29
          refine cseq ?_; intro K30 hK30
          refine creg ?_
          have hro : RdV [ovSeg ov 50 (wsV ws)] (ovVal ov ws.length) ws.length (wsV ws) := rdV_ov .z hov
          have hrl := hro.lenVal
          refine yas ?_
          refine ynil' (kthn (hK30 _ _ ?_))
          clear hK30
          refine cseq ?_; intro K31 hK31
          refine cseq ?_; intro K32 hK32
          refine creg ?_
          refine ymv ?_
          refine y (ev_lenV rfl Tryz.underlying68 hrl) rfl ?_
          refine ymv ?_
          refine ynil' (kthn (hK32 _ _ ?_))
          clear hK32
          have hJ3 : ∀ x : Nat × Bool, ((x.1 ≤ ws.length ∧ x.2 = (ws.take x.1).any fun y => decide (y.2.1 = C1.all ∧ y.2.2 = C1.k)) ∧ (x.1 = ws.length)) → Sk 169 K31 ([(98, i64 x.1), (97, i64 ws.length), (16, .bool x.2), (15, ptr b15), (13, ptr A1.p), (9, i64 i), (8, ovVal ov ws.length), (7, i64 n), (5, dp q26), (1, lv)]) ([sc b15 (wCells (s95, C1.all, C1.k)) 50, svSeg s95 34 (entsV C1.all), ovSeg ov 50 (wsV ws), wsS 34 ws, caP A1 C1, enS A1 C1, puS A1 C1, lgS A1 q26 sl1 C1, dev q26 D1] ++ R) := by
           rintro ⟨z, fnd⟩ ⟨hI3, hX3⟩
           refine hK31 _ _ ?_
           obtain ⟨hz, hf⟩ := hI3; dsimp only at hz hf ⊢
           dsimp only at hX3; rw [hX3, List.take_length] at hf
           have hft : fnd = true := by rw [hf]; obtain ⟨y, hy1, hy2⟩ := List.mem_map.1 hin1; refine List.any_eq_true.2 ⟨y, hy1, ?_⟩; rw [hy2]; simp
           subst hft
           refine cseq ?_; intro K33 hK33
           refine cseq ?_; intro K34 hK34
           refine creg ?_
           refine ymv ?_
           skip
           ·skip
            refine y (ev_not rfl) rfl ?_
            refine ynil' (kthn (hK34 _ _ ?_))
            clear hK34
            refine ccond0 rfl ?_
            refine cskip' (kthn (hK33 _ _ ?_))
            clear hK33
            refine cseq ?_; intro K35 hK35
            refine creg ?_
            refine ymv ?_
            refine yas ?_
            refine ynil' (kthn (hK35 _ _ ?_))
            clear hK35
            refine cseq ?_; intro K36 hK36
            refine creg ?_
            refine y (ev_loadN (u := wCells (s95, C1.all, C1.k)) rfl Tryz.isAgg50 Tryz.sizeOf50 zin rfl rfl) rfl ?_
            refine ya (ac_bsliceR rfl Tryz.underlying68 Tryz.sizeOf50 Tryz.zeroValue50 rfl rfl rfl rfl ⟨⟨_, _, rfl, (by first | rfl | simp), (by first | decide | simp)⟩, trivial⟩ (by dsimp [fillL, splice, vcells, reps] <;> rfl)) rfl ?_
            rintro v L' ⟨b115, rfl, rfl⟩
            have hj : KpOk n (2201 * (i + 1) + 1) (40 * (i + 1) + 1) ⟨A1, sl1, C1, D1, some (b115, 1, [], []), [(s95, C1.all, C1.k)]⟩ := kp_one (.inl (hcl.le (by omega))) hok1 hbl1 hnn1 ok1 ok95 (by omega)
            rw [show svSeg s95 34 (entsV C1.all) = wsS 34 [(s95, C1.all, C1.k)] from wsS_one _ (s95, C1.all, C1.k)]
            refine yas ?_
            refine ynil' (kthn (hK36 _ _ ?_))
            clear hK36
            refine cexit (kbp rfl (kthx (kbx (kthn ?_))))
            exact ksub zsub zge (hJr9 _ ⟨hj, by omega, by omega⟩)
          clear hK31
          refine cblock ?_
          refine cloop (A := Nat × Bool) (fun x => [(98, i64 x.1), (97, i64 ws.length), (16, .bool x.2), (15, ptr b15), (13, ptr A1.p), (9, i64 i), (8, ovVal ov ws.length), (7, i64 n), (5, dp q26), (1, lv)]) (fun x => [sc b15 (wCells (s95, C1.all, C1.k)) 50, svSeg s95 34 (entsV C1.all), ovSeg ov 50 (wsV ws), wsS 34 ws, caP A1 C1, enS A1 C1, puS A1 C1, lgS A1 q26 sl1 C1, dev q26 D1] ++ R) (fun x => x.1 ≤ ws.length ∧ x.2 = (ws.take x.1).any fun y => decide (y.2.1 = C1.all ∧ y.2.2 = C1.k)) (fun x => ws.length - x.1) ((0, false)) ?_ zsub zge ?_
          · exact ⟨Nat.zero_le _, by simp⟩
          rintro ⟨z, fnd⟩ hI3 KL3 hL3
          have hI3o := hI3
          obtain ⟨hz, hf⟩ := hI3; dsimp only at hz hf ⊢
          refine cseq ?_; intro K37 hK37
          refine creg ?_
          refine y (ev_lss rfl rfl) rfl ?_
          refine ynil' (kthn (hK37 _ _ ?_))
          clear hK37
          refine cseq ?_; intro K38 hK38
          refine ccond rfl (fun h96 => ?_) (fun h96 => ?_)
          ·(try simp only [sH] at h96)
           obtain ⟨wz, hwz⟩ : ∃ w, ws[z]? = some w := ⟨_, List.getElem?_eq_getElem (by omega)⟩
           have hwm := List.mem_of_getElem? hwz
           have hwl := (hws.all wz hwm).2
           refine cskip' (kthn (hK38 _ _ ?_))
           clear hK38
           refine cseq ?_; intro K39 hK39
           refine cblock ?_
           refine cseq ?_; intro K40 hK40
           refine creg ?_
           refine ymv ?_
           refine yas ?_
           refine ynil' (kthn (hK40 _ _ ?_))
           clear hK40
           refine cdraw 7 [(0, true), (1, true), (2, true), (3, true), (4, true), (5, true), (6, true)] ([sc b15 (wCells (s95, C1.all, C1.k)) 50, svSeg s95 34 (entsV C1.all), ovSeg ov 50 (wsV ws), wsS 34 ws] ++ R) Tryz.mixed (by kernel_rfl) zge ?_
           refine hr rfl (ev_move rfl) rfl ?_
           refine hr rfl (ev_move rfl) rfl ?_
           refine hsplit 102 rfl (fun h101 => ?_) (fun h101 => ?_)
           ·(try simp only [sH] at h101)
            have hfn : (true : Bool) = (ws.take (z + 1)).any (fun y => decide (y.2.1 = C1.all ∧ y.2.2 = C1.k)) := by rw [take_snoc hwz, List.any_append, ← hf, h101]; rfl
            refine hr0 rfl rfl rfl rfl rfl ?_
            refine hr0 rfl rfl rfl rfl rfl ?_
            refine hr0 rfl rfl rfl rfl rfl ?_
            refine hr0 rfl rfl rfl rfl rfl ?_
            refine hr0 rfl rfl rfl rfl rfl ?_
            refine hnil ?_
            refine ygz ?_
            refine ypa ?_
            refine yas ?_
            refine hnoP' (kbn (kthn (hK39 _ _ ?_)))
            clear hK39
            refine creg ?_
            refine y (ev_add rfl rfl) rfl ?_
            rw [show IntKind.i64.wrap ((z:Int) + 1) = ((z+1 : Nat) : Int) by rw [wr (by omega) (by omega)]; rfl]
            refine ymv ?_
            refine ynil' (kthn ?_)
            exact hL3 (z + 1, _) ⟨by dsimp only; omega, hfn⟩ (by dsimp only; omega) _ _ zsub zge
           ·(try simp only [sH] at h101)
            have hfn : decide (wz.2.1 = C1.all ∧ wz.2.2 = C1.k) = (ws.take (z + 1)).any (fun y => decide (y.2.1 = C1.all ∧ y.2.2 = C1.k)) := by rw [take_snoc hwz, List.any_append, ← hf, h101]; simp
            refine hr1 rfl rfl rfl (ev_move rfl) rfl ?_
            refine hr1 rfl rfl rfl (ev_move rfl) rfl ?_
            refine hr1 rfl rfl rfl (ev_ixV hro rfl rfl Tryz.underlying68 Tryz.sizeOf50 (by omega) (by omega)) rfl ?_
            refine hr1 rfl rfl rfl (ev_loadNV (us := wCells wz) (z * 7) hro zge rfl Tryz.isAgg50 Tryz.sizeOf50 (by simp) (wsV_get hwz) rfl) rfl ?_
            refine hr1 rfl rfl rfl (ev_loadN (u := wCells (s95, C1.all, C1.k)) rfl Tryz.isAgg50 Tryz.sizeOf50 zin rfl rfl) rfl ?_
            refine hnil ?_
            refine ygo ?_
            refine ycall (nAlike (u1 := wz.2.1) (u2 := C1.all) (k1 := wz.2.2) (k2 := C1.k) ?ia111 ?ib111 ?ic111 ?id111) rfl Tryz.call21 ztk rfl ?_
            case ia111 => exact (ws_rd (R := []) hws hwm).mono zge
            case ib111 => exact rdV_sv zin ok95
            case ic111 => omega
            case id111 => omega
            rintro v L' ⟨rfl, rfl⟩
            refine ypb ?_
            refine yas ?_
            refine hnoP' (kbn (kthn (hK39 _ _ ?_)))
            clear hK39
            refine creg ?_
            refine y (ev_add rfl rfl) rfl ?_
            rw [show IntKind.i64.wrap ((z:Int) + 1) = ((z+1 : Nat) : Int) by rw [wr (by omega) (by omega)]; rfl]
            refine ymv ?_
            refine ynil' (kthn ?_)
            exact hL3 (z + 1, _) ⟨by dsimp only; omega, hfn⟩ (by dsimp only; omega) _ _ zsub zge
          ·(try simp only [sH] at h96)
           refine cexit (kthx (kthx (kbx (kthn ?_))))
           exact ksub zsub zge (hJ3 ⟨z, fnd⟩ ⟨hI3o, by dsimp only; omega⟩)
        clear hK23
        refine cblock ?_
        refine cloop (A := Nat) (fun z => [(67, i64 z), (66, i64 yy.ks.length), (11, svVal s64 yy.ks.length), (9, i64 i), (8, ovVal ov ws.length), (7, i64 n), (6, ptr A.p), (5, dp q26), (1, lv)]) (fun z => [svSeg s64 71 (keepsV (maskN yy.ks z)), ovSeg ov 50 (wsV ws), wsS 34 ws, dev q26 D] ++ R) (fun z => z ≤ yy.ks.length) (fun z => yy.ks.length - z) (0) ?_ zsub zge ?_
        · exact Nat.zero_le _
        rintro k hI2 KL2 hL2
        have hI2o := hI2
        have hkI := hI2
        refine cseq ?_; intro K41 hK41
        refine creg ?_
        refine y (ev_lss rfl rfl) rfl ?_
        refine ynil' (kthn (hK41 _ _ ?_))
        clear hK41
        refine cseq ?_; intro K42 hK42
        refine ccond rfl (fun h117 => ?_) (fun h117 => ?_)
        ·(try simp only [sH] at h117)
         refine cskip' (kthn (hK42 _ _ ?_))
         clear hK42
         refine cseq ?_; intro K43 hK43
         refine cblock ?_
         refine cseq ?_; intro K44 hK44
         refine creg ?_
         refine ymv ?_
         refine yas ?_
         refine ynil' (kthn (hK44 _ _ ?_))
         clear hK44
         refine creg ?_
         obtain ⟨y0, hy0⟩ : ∃ y, yy.ks[k]? = some y := ⟨_, List.getElem?_eq_getElem (by omega)⟩
         rcases s64 with _ | ⟨bk, ck, sk⟩
         · exact absurd ok64.1 (by omega)
         have hset : (keepsV (maskN yy.ks k) ++ sk).set (k * 2) (i64 (bAnd .i64 y0.1 1)) = keepsV (maskN yy.ks (k + 1)) ++ sk := by rw [List.set_append_left _ _ (by rw [keepsV_len2, maskN_len]; omega), keepsV_set (maskN_get hy0), maskN_set hy0]
         have hget : (keepsV (maskN yy.ks k) ++ sk)[k * 2]? = some (i64 y0.1) := by rw [List.getElem?_append_left (by rw [keepsV_len2, maskN_len]; omega)]; exact keepsV_get0 (maskN_get hy0)
         refine ymv ?_
         refine ymv ?_
         refine y (ev_ixAddr rfl rfl Tryz.underlying57 Tryz.sizeOf71 (by omega) (by omega)) rfl ?_
         refine y (ev_fieldAddr 0 rfl Tryz.underlying71 rfl Tryz.sizeOf3) rfl ?_
         refine y (ev_load rfl Tryz.isAgg3 zin (by simpa using hget)) rfl ?_
         refine y (ev_and rfl rfl) rfl ?_
         refine y (ev_ixAddr rfl rfl Tryz.underlying57 Tryz.sizeOf71 (by omega) (by omega)) rfl ?_
         refine y (ev_fieldAddr 0 rfl Tryz.underlying71 rfl Tryz.sizeOf3) rfl ?_
         refine ya0 (ac_store rfl rfl rfl Tryz.sizeOf3 zrp (by simp [keepsV_len2, maskN_len]; omega) (by simpa using hset)) ?_
         rintro v L' ⟨rfl, rfl⟩
         refine ynil' (kbn (kthn (hK43 _ _ ?_)))
         clear hK43
         refine creg ?_
         refine y (ev_add rfl rfl) rfl ?_
         rw [show IntKind.i64.wrap ((k:Int) + 1) = ((k+1 : Nat) : Int) by rw [wr (by omega) (by omega)]; rfl]
         refine ymv ?_
         refine ynil' (kthn ?_)
         exact hL2 (k + 1) (by omega) (by omega) _ _ zsub zge
        ·(try simp only [sH] at h117)
         refine cexit (kthx (kthx (kbx (kthn ?_))))
         exact ksub zsub zge (hJ2 k ⟨hI2o, by first | trivial | omega⟩)
       ·(try simp only [sH] at h54)
        refine cskip' (kbn (kthn (hK17 _ _ ?_)))
        clear hK17
        refine cseq ?_; intro K45 hK45
        refine creg ?_
        refine yas ?_
        refine ynil' (kthn (hK45 _ _ ?_))
        clear hK45
        refine cseq ?_; intro K46 hK46
        have hJr48 : ∀ x : Ov × Ws, (ovOk x.1 x.2.length 7 (wsV x.2) ∧ WsOk x.2 ∧ x.2.length ≤ ws.length + 32 ∧ (∀ y ∈ wsW ws, y ∈ wsW x.2) ∧ (yy.kind = 0 → fullB C yy.x.blk = true → ∀ y ∈ midsM C, y ∈ wsW x.2)) → Sk 169 K46 ([(18, i64 0), (10, ptr b10), (9, i64 i), (8, ovVal x.1 x.2.length), (7, i64 n), (6, ptr A.p), (5, dp q26), (1, lv)]) ([sc b10 yy.cells 59, ovSeg x.1 50 (wsV x.2), wsS 34 x.2, caP A C, enS A C, puS A C, lgS A q26 sl C, dev q26 D] ++ R) := by
         rintro ⟨ov2, ws2⟩ hIr48
         refine hK46 _ _ ?_
         obtain ⟨hov2, hws2, hlen2, hsub2, hmid2⟩ := hIr48; dsimp only at hov2 hws2 hlen2 hsub2 hmid2 ⊢
         refine cseq ?_; intro K47 hK47
         refine creg ?_
         refine ymv ?_
         refine y (ev_loadN (u := yy.cells) rfl Tryz.isAgg59 Tryz.sizeOf59 zin rfl rfl) rfl ?_
         refine ycall (nDo (C := C) (sl := sl) (q := q26) (D := D) (a := yy) ?cok134 ?its134 ?lx134 ?lt134) rfl Tryz.call25 ztk rfl ?_
         case cok134 => exact hok
         case its134 => exact hit
         case lx134 => exact hact.mono zge
         case lt134 => omega
         rintro v L' ⟨sl151, rfl, ok151, rfl⟩
         have hdg := CGo.doM (W' := wsW ws2 ++ [((doM C D yy.kind yy.x yy.ts).2.1.all, (doM C D yy.kind yy.x yy.ts).2.1.k)]) hgo (by omega) yy.kind yy.x yy.ts (fun y hy => List.mem_append_left _ (hsub2 y hy)) (fun h0 h1 y hy => List.mem_append_left _ (hmid2 h0 h1 y hy)) (by simp)
         have hdok := doM_ok hok yy.kind yy.x yy.ts
         obtain ⟨hdb, hdn⟩ := doM_bl C D yy.kind yy.x yy.ts
         generalize doM C D yy.kind yy.x yy.ts = r at *
         obtain ⟨er, C2, D2⟩ := r
         dsimp only at *
         have hal3 := all_le hdok
         refine yas ?_
         refine ynil' (kthn (hK47 _ _ ?_))
         clear hK47
         refine cseq ?_; intro K48 hK48
         refine creg ?_
         refine ymv ?_
         refine ymv ?_
         refine ycall (nTold (C := C2) ?bl138) rfl Tryz.call22 ztk rfl ?_
         case bl138 => omega
         rintro v L' ⟨s154, rfl, ok154, rfl⟩
         refine ya (ac_bsliceR rfl Tryz.underlying68 Tryz.sizeOf50 Tryz.zeroValue50 rfl rfl rfl rfl ⟨⟨_, _, rfl, (by first | rfl | simp), (by first | decide | simp)⟩, trivial⟩ (by dsimp [fillL, splice, vcells, reps] <;> rfl)) rfl ?_
         rintro v L' ⟨b155, rfl, rfl⟩
         refine ya (ac_appendO (s := ov2) (xs := wsV ws2) (m := ws2.length) (k := 1) (us := wCells (s154, C2.all, C2.k)) (size := 7) rfl rfl (by repeat first | exact .z | apply Pk.s) Tryz.underlying68 Tryz.underlying68 (by intro q hq; cases hq) Tryz.typeInfo50 rfl rfl rfl hov2 (src_at zin rfl rfl) (wCells_one _) (by show (_ + _) * 73 ≤ _; omega)) rfl ?_
         rintro v L' ⟨s156, rfl, ok156, rfl⟩
         rw [← wsV_snoc, show ws2.length + 1 = (ws2 ++ [(s154, C2.all, C2.k)]).length by simp] at *
         have hwf : WsOk (ws2 ++ [(s154, C2.all, C2.k)]) := hws2.snoc ok154 hal3
         have hww : wsW (ws2 ++ [(s154, C2.all, C2.k)]) = wsW ws2 ++ [(C2.all, C2.k)] := by simp [wsW]
         obtain ⟨hd1, hd2⟩ := hdg
         have hlw : (ws2 ++ [(s154, C2.all, C2.k)]).length ≤ 40 * (i + 1) + 1 := by simp; omega
         refine yas ?_
         refine ynil' (kthn (hK48 _ _ ?_))
         clear hK48
         refine cseq ?_; intro K49 hK49
         refine creg ?_
         refine y (ev_fieldAddr 0 rfl Tryz.underlying59 rfl Tryz.sizeOf3) rfl ?_
         refine y (ev_load rfl Tryz.isAgg3 zin rfl) rfl ?_
         refine y (ev_eql rfl rfl) rfl ?_
         refine ymv ?_
         refine ysplit 160 rfl (fun h146 => ?_) (fun h146 => ?_)
         ·(try simp only [sH] at h146)
          have hk4 := h146
          refine ygo ?_
          refine ymv ?_
          refine ygo ?_
          refine y (ev_eql rfl rfl) rfl ?_
          refine ypa ?_
          refine ynil' (kthn (hK49 _ _ ?_))
          clear hK49
          refine ccond rfl (fun h150 => ?_) (fun h150 => ?_)
          ·(try simp only [sH] at h150)
           have he0 : er = 0 := h150
           refine creg ?_
           have hro2 : RdV [ovSeg s156 50 (wsV (ws2 ++ [(s154, C2.all, C2.k)]))] (ovVal s156 (ws2 ++ [(s154, C2.all, C2.k)]).length) (ws2 ++ [(s154, C2.all, C2.k)]).length (wsV (ws2 ++ [(s154, C2.all, C2.k)])) := rdV_ov .z ok156
           have hrl2 := hro2.lenVal
           have hov3 := ok156
           rw [wsV_snoc] at hov3
           obtain ⟨ov3, e1, e2, e3⟩ := ov_from (j := ws2.length) hov3 (by rw [wsV_len]) (by simp)
           rw [show (ws2 ++ [(s154, C2.all, C2.k)]).length - ws2.length = 1 by simp] at e1 e2
           have hj : KpOk n (2201 * (i + 1) + 1) (40 * (i + 1) + 1) ⟨A, sl151, C2, D2, ov3, [(s154, C2.all, C2.k)]⟩ := ⟨(hd2 hk4 he0).le (by omega), hdok, hdb.trans hbl, hdn.trans hnn, ok151, by simpa [wsV] using e2, ⟨fun x hx => by simp at hx; subst hx; exact ⟨ok154, hal3⟩⟩, by dsimp only; simp⟩
           refine ymv ?_
           refine ymv ?_
           refine y (ev_lenV rfl Tryz.underlying68 hrl2) rfl ?_
           refine y (ev_sub rfl rfl) rfl ?_
           rw [show IntKind.i64.wrap (((ws2 ++ [(s154, C2.all, C2.k)]).length : Int) - 1) = ((ws2.length : Nat) : Int) by rw [wr (by omega) (by omega)]; simp]
           refine y (ev_slLV hro2 rfl rfl Tryz.underlying68 Tryz.sizeOf50 (by omega) (by simp; omega)) rfl ?_
           rw [show vSl (ovVal s156 (ws2 ++ [(s154, C2.all, C2.k)]).length) ((ws2.length : Nat) : Int).toNat (ws2 ++ [(s154, C2.all, C2.k)]).length 7 = ovVal ov3 1 from e1, show ovSeg s156 50 (wsV (ws2 ++ [(s154, C2.all, C2.k)])) = ovSeg ov3 50 (wsV [(s154, C2.all, C2.k)]) by rw [wsV_snoc, ← e3]; simp [wsV], show svSeg s154 34 (entsV C2.all) = wsS 34 [(s154, C2.all, C2.k)] from wsS_one _ (s154, C2.all, C2.k)]
           refine yas ?_
           refine ynil' (kbn (kthn ?_))
           exact ksub zsub zge (hJr9 _ ⟨hj, by omega, by omega⟩)
          ·(try simp only [sH] at h150)
           refine cjoin (A := wsS 34 ws2) (B := svSeg s154 34 (entsV C2.all)) (by repeat first | exact .z | apply Pk.s) (by repeat first | exact .z | apply Pk.s) ?_; rw [← wsS_snoc _ ws2 (s154, C2.all, C2.k)]
           have hj : KpOk n (2201 * (i + 1) + 1) (40 * (i + 1) + 1) ⟨A, sl151, C2, D2, s156, ws2 ++ [(s154, C2.all, C2.k)]⟩ := ⟨by rw [hww]; exact hd1.le (by omega), hdok, hdb.trans hbl, hdn.trans hnn, ok151, ok156, hwf, hlw⟩
           refine cskip' (kbn (kthn ?_))
           exact ksub zsub zge (hJr9 _ ⟨hj, by omega, by omega⟩)
         ·(try simp only [sH] at h146)
          refine yjoin (A := wsS 34 ws2) (B := svSeg s154 34 (entsV C2.all)) (by repeat first | exact .z | apply Pk.s) (by repeat first | exact .z | apply Pk.s) ?_; rw [← wsS_snoc _ ws2 (s154, C2.all, C2.k)]
          have hj : KpOk n (2201 * (i + 1) + 1) (40 * (i + 1) + 1) ⟨A, sl151, C2, D2, s156, ws2 ++ [(s154, C2.all, C2.k)]⟩ := ⟨by rw [hww]; exact hd1.le (by omega), hdok, hdb.trans hbl, hdn.trans hnn, ok151, ok156, hwf, hlw⟩
          refine ygz ?_
          refine ygz ?_
          refine ypb ?_
          refine ynil' (kthn (hK49 _ _ ?_))
          clear hK49
          refine ccond0 rfl ?_
          refine cskip' (kbn (kthn ?_))
          exact ksub zsub zge (hJr9 _ ⟨hj, by omega, by omega⟩)
        clear hK46
        refine cseq ?_; intro K50 hK50
        refine creg ?_
        refine y (ev_fieldAddr 0 rfl Tryz.underlying59 rfl Tryz.sizeOf3) rfl ?_
        refine y (ev_load rfl Tryz.isAgg3 zin rfl) rfl ?_
        refine y (ev_eql rfl rfl) rfl ?_
        refine ymv ?_
        refine ysplit 119 rfl (fun h162 => ?_) (fun h162 => ?_)
        ·(try simp only [sH] at h162)
         refine ygo ?_
         refine ymv ?_
         refine ygo ?_
         refine y (ev_fieldAddr 2 rfl Tryz.underlying59 rfl Tryz.sizeOf34) rfl ?_
         refine ygo ?_
         refine y (ev_fieldAddr 0 rfl Tryz.underlying34 rfl Tryz.sizeOf3) rfl ?_
         refine ygo ?_
         refine y (ev_load rfl Tryz.isAgg3 zin rfl) rfl ?_
         refine ygo ?_
         refine ycall (nFull9 (C := C) ?fb167 ?fn167) rfl Tryz.call32 ztk rfl ?_
         case fb167 => omega
         case fn167 => (have := hok.l.first; have := hok.d.n; have := hok.n; omega)
         rintro v L' ⟨rfl, rfl⟩
         refine ypa ?_
         refine ynil' (kthn (hK50 _ _ ?_))
         clear hK50
         refine ccond rfl (fun h169 => ?_) (fun h169 => ?_)
         ·(try simp only [sH] at h169)
          refine cseq ?_; intro K51 hK51
          refine creg ?_
          refine ymv ?_
          refine ycall (kAll (C := C) ?bl171) rfl Tryz.call17 ztk rfl ?_
          case bl171 => omega
          rintro v L' ⟨s127, rfl, ok127, rfl⟩
          have ha : RdV [svSeg s127 34 (entsV C.all)] (svVal s127 C.all.length) C.all.length (entsV C.all) := rdV_sv .z ok127
          have hal2 := ha.lenVal
          refine y (ev_lenV rfl Tryz.underlying41 hal2) rfl ?_
          refine ymv ?_
          refine ynil' (kthn (hK51 _ _ ?_))
          clear hK51
          refine cblock ?_
          refine cloop (A := Nat × Ov × Ws) (fun x => [(129, i64 x.1), (128, i64 C.all.length), (127, svVal s127 C.all.length), (18, i64 0), (10, ptr b10), (9, i64 i), (8, ovVal x.2.1 x.2.2.length), (7, i64 n), (6, ptr A.p), (5, dp q26), (1, lv)]) (fun x => [svSeg s127 34 (entsV C.all), sc b10 yy.cells 59, ovSeg x.2.1 50 (wsV x.2.2), wsS 34 x.2.2, caP A C, enS A C, puS A C, lgS A q26 sl C, dev q26 D] ++ R) (fun x => x.1 ≤ C.all.length ∧ ovOk x.2.1 x.2.2.length 7 (wsV x.2.2) ∧ WsOk x.2.2 ∧ x.2.2.length ≤ ws.length + x.1 ∧ (∀ y ∈ wsW ws, y ∈ wsW x.2.2) ∧ ∀ y ∈ C.all.take x.1, y.dirty = false → (without C.all y.blk, C.k) ∈ wsW x.2.2) (fun x => C.all.length - x.1) ((0, ov, ws)) ?_ zsub zge ?_
          · exact ⟨Nat.zero_le _, hov, hws, Nat.le_refl _, fun _ h => h, fun y hy => by simp at hy⟩
          rintro ⟨z, ovz, wsz⟩ hI4 KL4 hL4
          obtain ⟨hz, hovz, hwsz, hlenz, hsubz, hmidz⟩ := hI4; dsimp only at hz hovz hwsz hlenz hsubz hmidz ⊢
          refine cseq ?_; intro K52 hK52
          refine creg ?_
          refine y (ev_lss rfl rfl) rfl ?_
          refine ynil' (kthn (hK52 _ _ ?_))
          clear hK52
          refine cseq ?_; intro K53 hK53
          refine ccond rfl (fun h175 => ?_) (fun h175 => ?_)
          ·(try simp only [sH] at h175)
           obtain ⟨en, hen⟩ : ∃ e, C.all[z]? = some e := ⟨_, List.getElem?_eq_getElem (by omega)⟩
           refine cskip' (kthn (hK53 _ _ ?_))
           clear hK53
           refine cseq ?_; intro K54 hK54
           refine cblock ?_
           refine cseq ?_; intro K55 hK55
           refine creg ?_
           refine y (ev_ixV ha rfl rfl Tryz.underlying41 Tryz.sizeOf34 (by omega) (by omega)) rfl ?_
           refine y (ev_loadNV (us := en.cells) (z * 7) ha zge rfl Tryz.isAgg34 Tryz.sizeOf34 (by simp) (entsV_get hen) rfl) rfl ?_
           refine ya (ac_alloc Tryz.zeroValue34 rfl) rfl ?_
           rintro v L' ⟨b20, rfl, rfl⟩
           refine ya0 (ac_storeAll rfl rfl (ent_one _) Tryz.sizeOf34 zrp rfl rfl) ?_
           rintro v L' ⟨rfl, rfl⟩
           refine ynil' (kthn (hK55 _ _ ?_))
           clear hK55
           refine cseq ?_; intro K56 hK56
           refine creg ?_
           refine y (ev_fieldAddr 4 rfl Tryz.underlying34 rfl Tryz.sizeOf4) rfl ?_
           refine y (ev_load rfl Tryz.isAgg4 zin rfl) rfl ?_
           refine y (ev_not rfl) rfl ?_
           refine ynil' (kthn (hK56 _ _ ?_))
           clear hK56
           refine ccond rfl (fun h183 => ?_) (fun h183 => ?_)
           ·(try simp only [sH] at h183)
            have hnd : en.dirty = false := by simpa using h183
            refine cseq ?_; intro K57 hK57
            refine creg ?_
            refine ymv ?_
            refine ycall (nTold (C := C) ?bl185) rfl Tryz.call22 ztk rfl ?_
            case bl185 => omega
            rintro v L' ⟨s137, rfl, ok137, rfl⟩
            refine ya (ac_alloc Tryz.zeroValue50 rfl) rfl ?_
            rintro v L' ⟨b21, rfl, rfl⟩
            refine ya0 (ac_storeAll rfl rfl (told_one' _ _ _ _ _ _ _ _) Tryz.sizeOf50 zrp rfl rfl) ?_
            rintro v L' ⟨rfl, rfl⟩
            refine ynil' (kthn (hK57 _ _ ?_))
            clear hK57
            refine cseq ?_; intro K58 hK58
            refine creg ?_
            refine y (ev_fieldAddr 0 rfl Tryz.underlying50 rfl Tryz.sizeOf41) rfl ?_
            refine y (ev_load rfl Tryz.isAgg41 zin rfl) rfl ?_
            refine y (ev_fieldAddr 0 rfl Tryz.underlying34 rfl Tryz.sizeOf3) rfl ?_
            refine y (ev_load rfl Tryz.isAgg3 zin rfl) rfl ?_
            refine ycall (nWithout9 (l := C.all) (b := en.blk) ?wv192 ?wl192) rfl Tryz.call33 ztk rfl ?_
            case wv192 => exact rdV_sv zin ok137
            case wl192 => omega
            rintro v L' ⟨s142, rfl, ok142, rfl⟩
            refine y (ev_fieldAddr 0 rfl Tryz.underlying50 rfl Tryz.sizeOf41) rfl ?_
            refine ya0 (ac_store (vs' := wCells (s142, without C.all en.blk, C.k)) rfl rfl (svVal_one _ _) Tryz.sizeOf41 zrp rfl rfl) ?_
            rintro v L' ⟨rfl, rfl⟩
            refine ynil' (kthn (hK58 _ _ ?_))
            clear hK58
            refine creg ?_
            refine ymv ?_
            refine y (ev_loadN (u := wCells (s142, without C.all en.blk, C.k)) rfl Tryz.isAgg50 Tryz.sizeOf50 zin rfl rfl) rfl ?_
            refine ya (ac_bsliceR rfl Tryz.underlying68 Tryz.sizeOf50 Tryz.zeroValue50 rfl rfl rfl rfl ⟨⟨_, _, rfl, (by first | rfl | simp), (by first | decide | simp)⟩, trivial⟩ (by dsimp [fillL, splice, vcells, reps] <;> rfl)) rfl ?_
            rintro v L' ⟨b146, rfl, rfl⟩
            refine ya (ac_appendO (s := ovz) (xs := wsV wsz) (m := wsz.length) (k := 1) (us := wCells (s142, without C.all en.blk, C.k)) (size := 7) rfl rfl (by repeat first | exact .z | apply Pk.s) Tryz.underlying68 Tryz.underlying68 (by intro q hq; cases hq) Tryz.typeInfo50 rfl rfl rfl hovz (src_at zin rfl rfl) (wCells_one _) (by show (_ + _) * 73 ≤ _; omega)) rfl ?_
            rintro v L' ⟨s147, rfl, ok147, rfl⟩
            rw [← wsV_snoc, show wsz.length + 1 = (wsz ++ [(s142, without C.all en.blk, C.k)]).length by simp] at *
            refine yjoin (A := wsS 34 wsz) (B := svSeg s142 34 (entsV (without C.all en.blk))) (by repeat first | exact .z | apply Pk.s) (by repeat first | exact .z | apply Pk.s) ?_; rw [← wsS_snoc _ wsz (s142, without C.all en.blk, C.k)]
            have hz4 : z + 1 ≤ C.all.length ∧ ovOk s147 (wsz ++ [(s142, without C.all en.blk, C.k)]).length 7 (wsV (wsz ++ [(s142, without C.all en.blk, C.k)])) ∧ WsOk (wsz ++ [(s142, without C.all en.blk, C.k)]) ∧ (wsz ++ [(s142, without C.all en.blk, C.k)]).length ≤ ws.length + (z + 1) ∧ (∀ y ∈ wsW ws, y ∈ wsW (wsz ++ [(s142, without C.all en.blk, C.k)])) ∧ ∀ y ∈ C.all.take (z + 1), y.dirty = false → (without C.all y.blk, C.k) ∈ wsW (wsz ++ [(s142, without C.all en.blk, C.k)]) := ⟨by omega, ok147, hwsz.snoc ok142 (by unfold without; exact Nat.le_trans (List.length_filter_le _ _) (by omega)), by simp; omega, fun y hy => two_max _ (hsubz y hy), fun y hy hd => by
              rw [take_snoc hen] at hy
              rcases List.mem_append.1 hy with hy | hy
              · exact two_max _ (hmidz y hy hd)
              · simp at hy; subst hy; exact last_in⟩
            have hww : (without C.all en.blk).length ≤ 32 := by unfold without; exact Nat.le_trans (List.length_filter_le _ _) (by omega)
            refine yas ?_
            refine ynil' (kbn (kthn (hK54 _ _ ?_)))
            clear hK54
            refine creg ?_
            refine y (ev_add rfl rfl) rfl ?_
            rw [show IntKind.i64.wrap ((z:Int) + 1) = ((z+1 : Nat) : Int) by rw [wr (by omega) (by omega)]; rfl]
            refine ymv ?_
            refine ynil' (kthn ?_)
            exact hL4 (z + 1, _, _) hz4 (by dsimp only; omega) _ _ zsub zge
           ·(try simp only [sH] at h183)
            have hnd : en.dirty = true := by simpa using h183
            have hmidn : ∀ y ∈ C.all.take (z + 1), y.dirty = false → (without C.all y.blk, C.k) ∈ wsW wsz := fun y hy hd => by
              rw [take_snoc hen] at hy
              rcases List.mem_append.1 hy with hy | hy
              · exact hmidz y hy hd
              · simp at hy; subst hy; rw [hnd] at hd; cases hd
            have hz4 : z + 1 ≤ C.all.length ∧ ovOk ovz wsz.length 7 (wsV wsz) ∧ WsOk wsz ∧ wsz.length ≤ ws.length + (z + 1) ∧ (∀ y ∈ wsW ws, y ∈ wsW wsz) ∧ ∀ y ∈ C.all.take (z + 1), y.dirty = false → (without C.all y.blk, C.k) ∈ wsW wsz := ⟨by omega, hovz, hwsz, by omega, hsubz, hmidn⟩
            refine cskip' (kbn (kthn (hK54 _ _ ?_)))
            clear hK54
            refine creg ?_
            refine y (ev_add rfl rfl) rfl ?_
            rw [show IntKind.i64.wrap ((z:Int) + 1) = ((z+1 : Nat) : Int) by rw [wr (by omega) (by omega)]; rfl]
            refine ymv ?_
            refine ynil' (kthn ?_)
            exact hL4 (z + 1, _, _) hz4 (by dsimp only; omega) _ _ zsub zge
          ·(try simp only [sH] at h175)
           have h48 : ovOk ovz wsz.length 7 (wsV wsz) ∧ WsOk wsz ∧ wsz.length ≤ ws.length + 32 ∧ (∀ y ∈ wsW ws, y ∈ wsW wsz) ∧ (yy.kind = 0 → fullB C yy.x.blk = true → ∀ y ∈ midsM C, y ∈ wsW wsz) := ⟨hovz, hwsz, by omega, hsubz, fun _ _ y hy => by
             obtain ⟨e0, e1, rfl⟩ := List.mem_map.1 hy
             obtain ⟨e2, e3⟩ := List.mem_filter.1 e1
             rw [List.take_of_length_le (by omega)] at hmidz
             exact hmidz e0 e2 (by simpa using e3)⟩
           refine cexit (kthx (kthx (kbx (kthn ?_))))
           exact ksub zsub zge (hJr48 (_, _) h48)
         ·(try simp only [sH] at h169)
          have h48 : ovOk ov ws.length 7 (wsV ws) ∧ WsOk ws ∧ ws.length ≤ ws.length + 32 ∧ (∀ y ∈ wsW ws, y ∈ wsW ws) ∧ (yy.kind = 0 → fullB C yy.x.blk = true → ∀ y ∈ midsM C, y ∈ wsW ws) := ⟨hov, hws, by omega, fun _ h => h, fun _ h => by rw [h169] at h; cases h⟩
          refine cskip' (kthn ?_)
          exact ksub zsub zge (hJr48 (_, _) h48)
        ·(try simp only [sH] at h162)
         have h48 : ovOk ov ws.length 7 (wsV ws) ∧ WsOk ws ∧ ws.length ≤ ws.length + 32 ∧ (∀ y ∈ wsW ws, y ∈ wsW ws) ∧ (yy.kind = 0 → fullB C yy.x.blk = true → ∀ y ∈ midsM C, y ∈ wsW ws) := ⟨hov, hws, by omega, fun _ h => h, fun h => absurd h h162⟩
         refine ygz ?_
         refine ygz ?_
         refine ygz ?_
         refine ygz ?_
         refine ygz ?_
         refine ypb ?_
         refine ynil' (kthn (hK50 _ _ ?_))
         clear hK50
         refine ccond0 rfl ?_
         refine cskip' (kthn ?_)
         exact ksub zsub zge (hJr48 (_, _) h48)
    ·(try simp only [sH] at h29)
     refine cexit (kthx (kthx (kbx (kthn (hK8 _ _ ?_)))))
     clear hK8
     refine cseq ?_; intro K59 hK59
     refine creg ?_
     refine yas ?_
     refine ynil' (kthn (hK59 _ _ ?_))
     clear hK59
     refine cret ?_
     first
       | (exfalso; omega; done)
       | (refine kretv Tryz.results10 rfl (L1 := R) zge ?_
          exact ⟨_, ⟨by first | rfl | (exfalso; simp_all; done), rfl⟩, by first | rfl | (exfalso; simp_all; done)⟩)
   ·(try simp only [sH] at h25)
    refine ygz ?_
    refine ygz ?_
    refine ypb ?_
    refine ynil' (kthn (hK11 _ _ ?_))
    clear hK11
    refine ccond0 rfl ?_
    refine cexit (kthx (kthx (kbx (kthn (hK8 _ _ ?_)))))
    clear hK8
    refine cseq ?_; intro K60 hK60
    refine creg ?_
    refine yas ?_
    refine ynil' (kthn (hK60 _ _ ?_))
    clear hK60
    refine cret ?_
    first
      | (exfalso; omega; done)
      | (refine kretv Tryz.results10 rfl (L1 := R) zge ?_
         exact ⟨_, ⟨by first | rfl | (exfalso; simp_all; done), rfl⟩, by first | rfl | (exfalso; simp_all; done)⟩)
end W
end Go.Proofs
