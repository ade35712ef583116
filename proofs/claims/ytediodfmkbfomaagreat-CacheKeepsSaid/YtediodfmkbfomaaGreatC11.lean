/- A part of the proof: contracts and plain lemmas, each without conditions beyond those that it names. -/
import Derived.Test.YtediodfmkbfomaaGreatC10
set_option linter.unusedVariables false
set_option linter.unusedSimpArgs false
set_option linter.constructorNameAsVariable false
namespace Go.Proofs
open Go Go.Sl
namespace W
set_option linter.unusedVariables false
theorem kPut [Env] {R : List Seg} {A : CaA} {q : Q3} {sl : Sv} {C : CaM} {D : Dev} {x : EntM} (hC : C.ok D) (hs : itOk sl C.l) :
   Con Tryz.prog 13 [ptr A.p, entV x] [caP A C, enS A C, puS A C, lgS A q sl C, dev q D] R (KC A q C (C.put D x)) := by
 have hpu : C.put D x = if inB C.bl x.blk = false then (2, C, D) else if ¬ (x.data.length : Int) = 8 then (3, C, D) else if badPut C x = true then (1, C, D) else
   if (aget C.en x.blk).isSome = true ∨ (C.en.length : Int) < (C.n : Int) - 6 then C.come D ⟨.put x, putK C.k x⟩ else
   if C.spare.2 = false then (12, C, D) else
   if (C.come D ⟨.drop C.spare.1, C.k⟩).1 ≠ 0 then C.come D ⟨.drop C.spare.1, C.k⟩ else
   (C.come D ⟨.drop C.spare.1, C.k⟩).2.1.add (C.come D ⟨.drop C.spare.1, C.k⟩).2.2 ⟨.put x, putK C.k x⟩ := rfl
 have hbl := hC.bl
 obtain ⟨hl1, hl2, hl3, hl4, hl5, hl6, hl7⟩ := hC.lim
 refine con_enter Tryz.func13 Tryz.ntmps13 rfl rfl ?_
 refine cseq ?_; intro K1 hK1
 refine creg ?_
 refine ya (ac_box (vs := [i64 x.blk, i64 x.ve, i64 x.vs, str x.data, .bool x.dirty, i64 x.cl, i64 x.n]) rfl rfl) rfl ?_
 rintro v L' ⟨b3, rfl, rfl⟩
 refine yas ?_
 refine ynil' (kthn (hK1 _ _ ?_))
 clear hK1
 refine cseq ?_; intro K2 hK2
 refine cblock ?_
 refine cseq ?_; intro K3 hK3
 refine creg ?_
 refine ymv ?_
 refine y (ev_fieldAddr 0 rfl Tryz.underlying34 rfl Tryz.sizeOf3) rfl ?_
 refine y (ev_load rfl Tryz.isAgg3 zin rfl) rfl ?_
 refine ycall (kIn ?bl6) rfl Tryz.call38 ztk rfl ?_
 case bl6 => omega
 rintro v L' ⟨rfl, rfl⟩
 refine y (ev_not rfl) rfl ?_
 refine yas ?_
 refine ynil' (kthn (hK3 _ _ ?_))
 clear hK3
 refine ccond rfl (fun h9 => ?_) (fun h9 => ?_)
 ·(try simp only [sH] at h9)
  rw [if_pos h9] at hpu
  refine cseq ?_; intro K4 hK4
  refine creg ?_
  refine yas ?_
  refine ynil' (kthn (hK4 _ _ ?_))
  clear hK4
  refine cret (kbr (kthr ?_))
  first
    | (exfalso; omega; done)
    | (refine kretv Tryz.results13 rfl (L1 := [caP A C, enS A C, puS A C, lgS A q sl C, dev q D] ++ R) zge ?_
       rw [hpu]; exact ⟨_, ⟨sl, rfl, hs, rfl⟩, rfl⟩)
 ·(try simp only [sH] at h9)
  have hinb : inB C.bl x.blk = true := h9
  rw [if_neg (by rw [hinb]; simp)] at hpu
  refine cseq ?_; intro K5 hK5
  refine creg ?_
  refine y (ev_fieldAddr 3 rfl Tryz.underlying34 rfl Tryz.sizeOf9) rfl ?_
  refine y (ev_load rfl Tryz.isAgg9 zin rfl) rfl ?_
  first
    | refine y (ev_lenStr rfl Tryz.underlying9) rfl ?_
    | refine y (ev_lenS rfl Tryz.underlying9) rfl ?_
  refine y (ev_neq rfl rfl) rfl ?_
  refine yas ?_
  refine ynil' (kthn (hK5 _ _ ?_))
  clear hK5
  refine ccond rfl (fun h16 => ?_) (fun h16 => ?_)
  ·(try simp only [sH] at h16)
   rw [if_pos h16] at hpu
   refine cseq ?_; intro K6 hK6
   refine creg ?_
   refine yas ?_
   refine ynil' (kthn (hK6 _ _ ?_))
   clear hK6
   refine cret (kbr (kthr ?_))
   first
     | (exfalso; omega; done)
     | (refine kretv Tryz.results13 rfl (L1 := [caP A C, enS A C, puS A C, lgS A q sl C, dev q D] ++ R) zge ?_
        rw [hpu]; exact ⟨_, ⟨sl, rfl, hs, rfl⟩, rfl⟩)
  ·(try simp only [sH] at h16)
   have h8 : (x.data.length : Int) = 8 := h16
   rw [if_neg (fun hz => hz h8)] at hpu
   refine cseq ?_; intro K7 hK7
   refine cdraw 24 [(0, true), (1, true), (2, true), (3, true), (4, true), (5, true), (6, true), (7, false), (8, true), (9, true), (10, true), (11, true), (12, false), (13, true), (14, true), (15, true), (16, true), (17, true), (18, false), (19, true), (20, true), (21, true), (22, true), (23, true)] (_) Tryz.mixed (by kernel_rfl) .refl ?_
   unfold caP caC
   refine hr rfl (ev_fieldAddr 1 rfl Tryz.underlying34 rfl Tryz.sizeOf31) rfl ?_
   refine hr rfl (ev_loadN (u := [i64 x.ve, i64 x.vs]) rfl Tryz.isAgg31 Tryz.sizeOf31 zin rfl rfl) rfl ?_
   refine hr rfl (ev_move rfl) rfl ?_
   refine hr rfl (ev_nil rfl) rfl ?_
   refine hr rfl (ev_fieldAddr 5 rfl Tryz.underlying84 rfl Tryz.sizeOf82) rfl ?_
   refine hr rfl (ev_fieldAddr 0 rfl Tryz.underlying82 rfl Tryz.sizeOf31) rfl ?_
   refine hr rfl (ev_loadN (u := [i64 C.k.e, i64 C.k.s]) rfl Tryz.isAgg31 Tryz.sizeOf31 zin rfl rfl) rfl ?_
   refine hcall rfl (kAbove) rfl Tryz.call39 ztk rfl ?_
   rintro v L' ⟨rfl, rfl⟩; refine ⟨zge, ?_⟩
   refine hr rfl (ev_not rfl) rfl ?_
   refine hr rfl (ev_move rfl) rfl ?_
   refine hsplit 32 rfl (fun h28 => ?_) (fun h28 => ?_)
   ·(try simp only [sH] at h28)
    refine hr0 rfl rfl rfl rfl rfl ?_
    refine hr0 rfl rfl rfl rfl rfl ?_
    refine ha0 rfl rfl rfl rfl rfl zge ?_
    refine hr0 rfl rfl rfl rfl rfl ?_
    refine hr rfl (ev_pick1 rfl rfl) rfl ?_
    refine hr rfl (ev_move rfl) rfl ?_
    refine hr0 rfl rfl rfl rfl rfl ?_
    refine hr0 rfl rfl rfl rfl rfl ?_
    refine ha0 rfl rfl rfl rfl rfl zge ?_
    refine hr0 rfl rfl rfl rfl rfl ?_
    refine hr rfl (ev_pick1 rfl rfl) rfl ?_
    refine hr rfl (ev_move rfl) rfl ?_
    refine hr0 rfl rfl rfl rfl rfl ?_
    refine hr0 rfl rfl rfl rfl rfl ?_
    refine hnil ?_
    refine ygz ?_
    refine ypa ?_
    refine yas ?_
    refine hnoP' (kthn (hK7 _ _ ?_))
    clear hK7
    refine ccond1 rfl ?_
    refine cseq ?_; intro K8 hK8
    refine creg ?_
    have hbad : badPut C x = true := by unfold badPut; simp [*]
    rw [if_pos hbad] at hpu
    refine yas ?_
    refine ynil' (kthn (hK8 _ _ ?_))
    clear hK8
    refine cret (kbr (kthr ?_))
    first
      | (exfalso; omega; done)
      | (refine kretv Tryz.results13 rfl (L1 := [caP A C, enS A C, puS A C, lgS A q sl C, dev q D] ++ R) zge ?_
         rw [hpu]; exact ⟨_, ⟨sl, rfl, hs, rfl⟩, rfl⟩)
   ·(try simp only [sH] at h28)
    refine hr1 rfl rfl rfl (ev_fieldAddr 1 rfl Tryz.underlying34 rfl Tryz.sizeOf31) rfl ?_
    refine hr1 rfl rfl rfl (ev_loadN (u := [i64 x.ve, i64 x.vs]) rfl Tryz.isAgg31 Tryz.sizeOf31 zin rfl rfl) rfl ?_
    refine hcall1 rfl rfl rfl (kMay) rfl Tryz.call40 ztk rfl ?_
    rintro v L' ⟨rfl, rfl⟩; refine ⟨zge, ?_⟩
    refine hr1 rfl rfl rfl (ev_not rfl) rfl ?_
    refine hr rfl (ev_pick0 rfl rfl) rfl ?_
    refine hr rfl (ev_move rfl) rfl ?_
    refine hsplit 38 rfl (fun h42 => ?_) (fun h42 => ?_)
    ·(try simp only [sH] at h42)
     refine hr0 rfl rfl rfl rfl rfl ?_
     refine hr0 rfl rfl rfl rfl rfl ?_
     refine ha0 rfl rfl rfl rfl rfl zge ?_
     refine hr0 rfl rfl rfl rfl rfl ?_
     refine hr rfl (ev_pick1 rfl rfl) rfl ?_
     refine hr rfl (ev_move rfl) rfl ?_
     refine hr0 rfl rfl rfl rfl rfl ?_
     refine hr0 rfl rfl rfl rfl rfl ?_
     refine hnil ?_
     refine ygz ?_
     refine ypa ?_
     refine yas ?_
     refine hnoP' (kthn (hK7 _ _ ?_))
     clear hK7
     refine ccond1 rfl ?_
     refine cseq ?_; intro K9 hK9
     refine creg ?_
     have hbad : badPut C x = true := by unfold badPut; simp [*]
     rw [if_pos hbad] at hpu
     refine yas ?_
     refine ynil' (kthn (hK9 _ _ ?_))
     clear hK9
     refine cret (kbr (kthr ?_))
     first
       | (exfalso; omega; done)
       | (refine kretv Tryz.results13 rfl (L1 := [caP A C, enS A C, puS A C, lgS A q sl C, dev q D] ++ R) zge ?_
          rw [hpu]; exact ⟨_, ⟨sl, rfl, hs, rfl⟩, rfl⟩)
    ·(try simp only [sH] at h42)
     refine hr1 rfl rfl rfl (ev_fieldAddr 5 rfl Tryz.underlying34 rfl Tryz.sizeOf3) rfl ?_
     refine hr1 rfl rfl rfl (ev_load rfl Tryz.isAgg3 zin rfl) rfl ?_
     refine hcall1 rfl rfl rfl (kWithin) rfl Tryz.call41 ztk rfl ?_
     rintro v L' ⟨rfl, rfl⟩; refine ⟨zge, ?_⟩
     refine hr1 rfl rfl rfl (ev_not rfl) rfl ?_
     refine hr rfl (ev_pick0 rfl rfl) rfl ?_
     refine hr rfl (ev_move rfl) rfl ?_
     refine hsplit 44 rfl (fun h54 => ?_) (fun h54 => ?_)
     ·(try simp only [sH] at h54)
      refine hr0 rfl rfl rfl rfl rfl ?_
      refine hr0 rfl rfl rfl rfl rfl ?_
      refine hnil ?_
      refine ygz ?_
      refine ypa ?_
      refine yas ?_
      refine hnoP' (kthn (hK7 _ _ ?_))
      clear hK7
      refine ccond1 rfl ?_
      refine cseq ?_; intro K10 hK10
      refine creg ?_
      have hbad : badPut C x = true := by unfold badPut; simp [*]
      rw [if_pos hbad] at hpu
      refine yas ?_
      refine ynil' (kthn (hK10 _ _ ?_))
      clear hK10
      refine cret (kbr (kthr ?_))
      first
        | (exfalso; omega; done)
        | (refine kretv Tryz.results13 rfl (L1 := [caP A C, enS A C, puS A C, lgS A q sl C, dev q D] ++ R) zge ?_
           rw [hpu]; exact ⟨_, ⟨sl, rfl, hs, rfl⟩, rfl⟩)
     ·(try simp only [sH] at h54)
      refine hr1 rfl rfl rfl (ev_fieldAddr 6 rfl Tryz.underlying34 rfl Tryz.sizeOf2) rfl ?_
      refine hr1 rfl rfl rfl (ev_load rfl Tryz.isAgg2 zin rfl) rfl ?_
      refine hnil ?_
      refine ygo ?_
      refine ycall (kOdd) rfl Tryz.call42 ztk rfl ?_
      rintro v L' ⟨rfl, rfl⟩
      refine ypb ?_
      refine yas ?_
      refine hnoP' (kthn (hK7 _ _ ?_))
      clear hK7
      refine ccond rfl (fun h63 => ?_) (fun h63 => ?_)
      ·(try simp only [sH] at h63)
       refine cseq ?_; intro K11 hK11
       refine creg ?_
       have hbad : badPut C x = true := by unfold badPut; simp [*]
       rw [if_pos hbad] at hpu
       refine yas ?_
       refine ynil' (kthn (hK11 _ _ ?_))
       clear hK11
       refine cret (kbr (kthr ?_))
       first
         | (exfalso; omega; done)
         | (refine kretv Tryz.results13 rfl (L1 := [caP A C, enS A C, puS A C, lgS A q sl C, dev q D] ++ R) zge ?_
            rw [hpu]; exact ⟨_, ⟨sl, rfl, hs, rfl⟩, rfl⟩)
      ·(try simp only [sH] at h63)
       refine cskip' (kbn (kthn (hK2 _ _ ?_)))
       clear hK2
       refine cseq ?_; intro K12 hK12
       refine creg ?_
       have hbad : badPut C x = false := by unfold badPut; simp [*]
       rw [if_neg (by rw [hbad]; simp)] at hpu
       obtain ⟨hxo, hab⟩ := bad_no hinb h8 hbad
       have hKo := putK_ok hC.k hxo
       refine ymv ?_
       refine yni ?_
       refine y (ev_fieldAddr 5 rfl Tryz.underlying84 rfl Tryz.sizeOf82) rfl ?_
       refine y (ev_loadN (u := keptL C.k) rfl Tryz.isAgg82 Tryz.sizeOf82 zin rfl rfl) rfl ?_
       refine ya (ac_alloc Tryz.zeroValue82 rfl) rfl ?_
       rintro v L' ⟨b5, rfl, rfl⟩
       refine ya0 (ac_storeAll (us := keptL C.k) rfl rfl (by simp [Value.oneCell']) Tryz.sizeOf82 zrp rfl rfl) ?_
       rintro v L' ⟨rfl, rfl⟩
       refine ynil' (kthn (hK12 _ _ ?_))
       clear hK12
       refine cseq ?_; intro K13 hK13
       refine creg ?_
       refine y (ev_fieldAddr 1 rfl Tryz.underlying34 rfl Tryz.sizeOf31) rfl ?_
       refine y (ev_loadN (u := [i64 x.ve, i64 x.vs]) rfl Tryz.isAgg31 Tryz.sizeOf31 zin rfl rfl) rfl ?_
       refine y (ev_fieldAddr 0 rfl Tryz.underlying82 rfl Tryz.sizeOf31) rfl ?_
       refine ya0 (ac_storeN (vs' := [i64 x.ve, i64 x.vs, i64 C.k.t.a, i64 C.k.t.b, i64 C.k.t.c, i64 C.k.t.d]) rfl rfl (by simp [Value.oneCell']) Tryz.sizeOf31 zrp rfl (by simp) rfl) ?_
       rintro v L' ⟨rfl, rfl⟩
       refine ynil' (kthn (hK13 _ _ ?_))
       clear hK13
       refine cseq ?_; intro K14 hK14
       have hJr11 : ∀ z : Unit, (True) → Sk 123 K14 ([(5, ptr b5), (3, ptr b3), (0, ptr A.p)]) ([sc b5 (keptL (putK C.k x)) 82, sc b3 [i64 x.blk, i64 x.ve, i64 x.vs, str x.data, .bool x.dirty, i64 x.cl, i64 x.n] 34, caP A C, enS A C, puS A C, lgS A q sl C, dev q D] ++ R) := by
        rintro _ hIr11
        refine hK14 _ _ ?_
        unfold caP caC enS
        refine cseq ?_; intro K15 hK15
        refine cseq ?_; intro K16 hK16
        refine cdraw 12 [(0, true), (1, true), (2, true), (3, true), (4, true), (5, true), (6, true), (7, true), (8, true), (9, true), (10, false), (11, false)] (_) Tryz.mixed (by kernel_rfl) .refl ?_
        refine hr rfl (ev_move rfl) rfl ?_
        refine hr rfl (ev_nil rfl) rfl ?_
        refine hr rfl (ev_fieldAddr 3 rfl Tryz.underlying84 rfl Tryz.sizeOf29) rfl ?_
        refine hr rfl (ev_load rfl Tryz.isAgg29 zin rfl) rfl ?_
        refine hr rfl (ev_fieldAddr 0 rfl Tryz.underlying34 rfl Tryz.sizeOf3) rfl ?_
        refine hr rfl (ev_load rfl Tryz.isAgg3 zin rfl) rfl ?_
        refine hr rfl (ev_lookup2 (z := entV .zero) (kv := akv entV C.en) rfl rfl Tryz.underlying29 Tryz.underlying3 Tryz.zeroValue34 zin) rfl ?_
        rw [akv_get, lk_entV, Option.isSome_map]
        refine hr rfl (ev_move rfl) rfl ?_
        refine hr rfl (ev_extract rfl rfl) rfl ?_
        refine hr rfl (ev_extract rfl rfl) rfl ?_
        refine ha rfl (ac_alloc Tryz.zeroValue34 rfl) rfl ?_
        rintro v L' ⟨b6, rfl, rfl⟩; refine ⟨zge, ?_⟩
        refine haN rfl (ac_storeAll rfl rfl (ent_one _) Tryz.sizeOf34 zrp rfl rfl) ?_
        rintro v L' ⟨rfl, rfl⟩; refine ⟨zge, ?_⟩
        refine hnil ?_
        refine yas ?_
        refine hnoP' (kthn (hK16 _ _ ?_))
        clear hK16
        refine cseq ?_; intro K17 hK17
        refine creg ?_
        refine ymv ?_
        refine ymv ?_
        refine ysplit 82 rfl (fun h90 => ?_) (fun h90 => ?_)
        ·(try simp only [sH] at h90)
         have hin : (aget C.en x.blk).isSome = true := h90
         rw [if_pos (Or.inl hin)] at hpu
         refine ygz ?_
         refine ygz ?_
         refine ygz ?_
         refine ygz ?_
         refine ygz ?_
         refine ygz ?_
         refine ygz ?_
         refine ygz ?_
         refine ypa ?_
         refine ynil' (kthn (hK17 _ _ ?_))
         clear hK17
         refine ccond1 rfl ?_
         refine cseq ?_; intro K18 hK18
         refine creg ?_
         refine ymv ?_
         refine y (ev_loadN (u := [i64 x.blk, i64 x.ve, i64 x.vs, str x.data, .bool x.dirty, i64 x.cl, i64 x.n]) rfl Tryz.isAgg34 Tryz.sizeOf34 zin rfl rfl) rfl ?_
         refine y (ev_build (zs := _) rfl Tryz.underlying89 Tryz.zeroValue89 rfl (.cons Tryz.sizeOf34 .nil) ⟨⟨_, _, rfl, (by first | rfl | simp), (by first | decide | simp)⟩, trivial⟩ (by dsimp [fillL, splice, vcells] <;> rfl)) rfl ?_
         refine y (ev_iface rfl (by kernel_rfl)) rfl ?_
         refine y (ev_loadN (u := keptL (putK C.k x)) rfl Tryz.isAgg82 Tryz.sizeOf82 zin rfl rfl) rfl ?_
         refine ycall (kCome (C := C) (sl := sl) (q := q) (D := D) (w := .put x) (k := putK C.k x) ?cok97 ?its97 ?rok97) rfl Tryz.call43 ztk rfl ?_
         case cok97 => exact hC
         case its97 => exact hs
         case rok97 => first | exact ⟨hxo, hKo⟩ | exact ⟨spare_ok hC hsp, hC.k⟩
         rintro v L' ⟨sl97, rfl, ok97, rfl⟩
         refine yas ?_
         refine ynil' (kthn (hK18 _ _ ?_))
         clear hK18
         refine cret (kthr ?_)
         first
           | (exfalso; omega; done)
           | (refine kretv Tryz.results13 rfl (L1 := [caP A _, enS A _, puS A _, lgS A q sl97 _, dev q _] ++ R) zge ?_
              rw [hpu]; exact ⟨_, ⟨sl97, rfl, ok97, rfl⟩, rfl⟩)
        ·(try simp only [sH] at h90)
         have hin : (aget C.en x.blk).isSome = false := h90
         refine ygo ?_
         refine ymv ?_
         refine ygo ?_
         refine yni ?_
         refine ygo ?_
         refine y (ev_fieldAddr 3 rfl Tryz.underlying84 rfl Tryz.sizeOf29) rfl ?_
         refine ygo ?_
         refine y (ev_load rfl Tryz.isAgg29 zin rfl) rfl ?_
         refine ygo ?_
         refine y (ev_lenM rfl Tryz.underlying29 zin) rfl ?_
         rw [show (ents (akv entV C.en)).size = C.en.length by simp [ents, akv]]
         refine ygo ?_
         refine ymv ?_
         refine ygo ?_
         refine ycall (kRoom ?rn105) rfl Tryz.call14 ztk rfl ?_
         case rn105 => omega
         rintro v L' ⟨rfl, rfl⟩
         refine ygo ?_
         refine y (ev_lss rfl rfl) rfl ?_
         refine ypb ?_
         refine ynil' (kthn (hK17 _ _ ?_))
         clear hK17
         refine ccond rfl (fun h108 => ?_) (fun h108 => ?_)
         ·(try simp only [sH] at h108)
          rw [if_pos (by first | exact .inl (by assumption) | exact .inr (by omega))] at hpu
          refine cseq ?_; intro K19 hK19
          refine creg ?_
          refine ymv ?_
          refine y (ev_loadN (u := [i64 x.blk, i64 x.ve, i64 x.vs, str x.data, .bool x.dirty, i64 x.cl, i64 x.n]) rfl Tryz.isAgg34 Tryz.sizeOf34 zin rfl rfl) rfl ?_
          refine y (ev_build (zs := _) rfl Tryz.underlying89 Tryz.zeroValue89 rfl (.cons Tryz.sizeOf34 .nil) ⟨⟨_, _, rfl, (by first | rfl | simp), (by first | decide | simp)⟩, trivial⟩ (by dsimp [fillL, splice, vcells] <;> rfl)) rfl ?_
          refine y (ev_iface rfl (by kernel_rfl)) rfl ?_
          refine y (ev_loadN (u := keptL (putK C.k x)) rfl Tryz.isAgg82 Tryz.sizeOf82 zin rfl rfl) rfl ?_
          refine ycall (kCome (C := C) (sl := sl) (q := q) (D := D) (w := .put x) (k := putK C.k x) ?cok114 ?its114 ?rok114) rfl Tryz.call43 ztk rfl ?_
          case cok114 => exact hC
          case its114 => exact hs
          case rok114 => first | exact ⟨hxo, hKo⟩ | exact ⟨spare_ok hC hsp, hC.k⟩
          rintro v L' ⟨sl97, rfl, ok97, rfl⟩
          refine yas ?_
          refine ynil' (kthn (hK19 _ _ ?_))
          clear hK19
          refine cret (kthr ?_)
          first
            | (exfalso; omega; done)
            | (refine kretv Tryz.results13 rfl (L1 := [caP A _, enS A _, puS A _, lgS A q sl97 _, dev q _] ++ R) zge ?_
               rw [hpu]; exact ⟨_, ⟨sl97, rfl, ok97, rfl⟩, rfl⟩)
         ·(try simp only [sH] at h108)
          rw [if_neg (fun hz => hz.elim (fun h => by rw [hin] at h; cases h) (fun h => by omega))] at hpu
          refine cskip' (kthn (hK15 _ _ ?_))
          clear hK15
          refine cseq ?_; intro K20 hK20
          refine creg ?_
          refine ymv ?_
          refine ycall (kSpare (C := C) ?bl117) rfl Tryz.call44 ztk rfl ?_
          case bl117 => omega
          rintro v L' ⟨rfl, rfl⟩
          refine ymv ?_
          refine yxt ?_
          refine yxt ?_
          refine yas ?_
          refine yas ?_
          refine ynil' (kthn (hK20 _ _ ?_))
          clear hK20
          refine cseq ?_; intro K21 hK21
          refine cseq ?_; intro K22 hK22
          refine creg ?_
          refine ymv ?_
          refine y (ev_not rfl) rfl ?_
          refine ynil' (kthn (hK22 _ _ ?_))
          clear hK22
          refine ccond rfl (fun h125 => ?_) (fun h125 => ?_)
          ·(try simp only [sH] at h125)
           rw [if_pos h125] at hpu
           refine cseq ?_; intro K23 hK23
           refine creg ?_
           refine yas ?_
           refine ynil' (kthn (hK23 _ _ ?_))
           clear hK23
           refine cret (kthr ?_)
           first
             | (exfalso; omega; done)
             | (refine kretv Tryz.results13 rfl (L1 := [caP A C, enS A C, puS A C, lgS A q sl C, dev q D] ++ R) zge ?_
                rw [hpu]; exact ⟨_, ⟨sl, rfl, hs, rfl⟩, rfl⟩)
          ·(try simp only [sH] at h125)
           have hsp : C.spare.2 = true := h125
           rw [if_neg (by rw [hsp]; simp)] at hpu
           refine cskip' (kthn (hK21 _ _ ?_))
           clear hK21
           refine cseq ?_; intro K24 hK24
           refine cseq ?_; intro K25 hK25
           refine creg ?_
           refine ymv ?_
           refine ymv ?_
           refine y (ev_build (zs := _) rfl Tryz.underlying93 Tryz.zeroValue93 rfl (.cons Tryz.sizeOf3 .nil) ⟨⟨_, _, rfl, (by first | rfl | simp), (by first | decide | simp)⟩, trivial⟩ (by dsimp [fillL, splice, vcells] <;> rfl)) rfl ?_
           refine y (ev_iface rfl (by kernel_rfl)) rfl ?_
           refine ymv ?_
           refine yni ?_
           refine y (ev_fieldAddr 5 rfl Tryz.underlying84 rfl Tryz.sizeOf82) rfl ?_
           refine y (ev_loadN (u := keptL C.k) rfl Tryz.isAgg82 Tryz.sizeOf82 zin rfl rfl) rfl ?_
           refine ycall (kCome (C := C) (sl := sl) (q := q) (D := D) (w := .drop C.spare.1) (k := C.k) ?cok135 ?its135 ?rok135) rfl Tryz.call43 ztk rfl ?_
           case cok135 => exact hC
           case its135 => exact hs
           case rok135 => first | exact ⟨hxo, hKo⟩ | exact ⟨spare_ok hC hsp, hC.k⟩
           rintro v L' ⟨sl113, rfl, ok113, rfl⟩
           have hcb := CaM.come_bl (C := C) (D := D) (r := ⟨.drop C.spare.1, C.k⟩)
           have hco := hC.come (r := ⟨.drop C.spare.1, C.k⟩) ⟨spare_ok hC hsp, hC.k⟩
           generalize C.come D ⟨.drop C.spare.1, C.k⟩ = dr at *
           obtain ⟨ed, C1, D1⟩ := dr
           dsimp only at *
           refine yas ?_
           refine ynil' (kthn (hK25 _ _ ?_))
           clear hK25
           refine cseq ?_; intro K26 hK26
           refine creg ?_
           refine ymv ?_
           refine y (ev_neq rfl rfl) rfl ?_
           refine ynil' (kthn (hK26 _ _ ?_))
           clear hK26
           refine ccond rfl (fun h139 => ?_) (fun h139 => ?_)
           ·(try simp only [sH] at h139)
            rw [if_pos h139] at hpu
            refine cseq ?_; intro K27 hK27
            refine creg ?_
            refine ymv ?_
            refine yas ?_
            refine ynil' (kthn (hK27 _ _ ?_))
            clear hK27
            refine cret (kthr ?_)
            first
              | (exfalso; omega; done)
              | (refine kretv Tryz.results13 rfl (L1 := [caP A C1, enS A C1, puS A C1, lgS A q sl113 C1, dev q D1] ++ R) zge ?_
                 rw [hpu]; exact ⟨_, ⟨sl113, rfl, ok113, rfl⟩, rfl⟩)
           ·(try simp only [sH] at h139)
            rw [if_neg (fun hz => hz h139)] at hpu
            refine cskip' (kthn (hK24 _ _ ?_))
            clear hK24
            refine cseq ?_; intro K28 hK28
            refine creg ?_
            refine ymv ?_
            refine y (ev_loadN (u := [i64 x.blk, i64 x.ve, i64 x.vs, str x.data, .bool x.dirty, i64 x.cl, i64 x.n]) rfl Tryz.isAgg34 Tryz.sizeOf34 zin rfl rfl) rfl ?_
            refine y (ev_build (zs := _) rfl Tryz.underlying89 Tryz.zeroValue89 rfl (.cons Tryz.sizeOf34 .nil) ⟨⟨_, _, rfl, (by first | rfl | simp), (by first | decide | simp)⟩, trivial⟩ (by dsimp [fillL, splice, vcells] <;> rfl)) rfl ?_
            refine y (ev_iface rfl (by kernel_rfl)) rfl ?_
            refine y (ev_loadN (u := keptL (putK C.k x)) rfl Tryz.isAgg82 Tryz.sizeOf82 zin rfl rfl) rfl ?_
            refine ycall (kAdd (C := C1) (sl := sl113) (q := q) (D := D1) (w := .put x) (k := putK C.k x) ?cok147 ?its147 ?rok147) rfl Tryz.call45 ztk rfl ?_
            case cok147 => exact hco
            case its147 => exact ok113
            case rok147 => exact ⟨by rw [hcb.1]; exact hxo, hKo⟩
            rintro v L' ⟨sl122, rfl, ok122, rfl⟩
            refine yas ?_
            refine ynil' (kthn (hK28 _ _ ?_))
            clear hK28
            refine cret ?_
            first
              | (exfalso; omega; done)
              | (refine kretv Tryz.results13 rfl (L1 := [caP A _, enS A _, puS A _, lgS A q sl122 _, dev q _] ++ R) zge ?_
                 rw [hpu]; exact ⟨_, ⟨sl122, rfl, ok122, rfl⟩, rfl⟩)
       clear hK14
       refine cseq ?_; intro K29 hK29
       refine creg ?_
       refine y (ev_fieldAddr 5 rfl Tryz.underlying34 rfl Tryz.sizeOf3) rfl ?_
       refine y (ev_load rfl Tryz.isAgg3 zin rfl) rfl ?_
       refine y (ev_geq rfl rfl) rfl ?_
       refine ynil' (kthn (hK29 _ _ ?_))
       clear hK29
       refine ccond rfl (fun h152 => ?_) (fun h152 => ?_)
       ·(try simp only [sH] at h152)
        have hcl4 : x.cl = 0 ∨ x.cl = 1 ∨ x.cl = 2 ∨ x.cl = 3 := by have := hxo.cl; omega
        obtain ⟨blk, ve, vs, data, dirty, cl, n⟩ := x
        dsimp only at hcl4 hxo ⊢
        refine cdraw 12 [(0, true), (1, true), (2, true), (3, true), (4, true), (5, true), (6, true), (7, true), (8, true), (9, true), (10, true), (11, true)] (_) Tryz.mixed (by kernel_rfl) .refl ?_
        refine hr rfl (ev_fieldAddr 5 rfl Tryz.underlying34 rfl Tryz.sizeOf3) rfl ?_
        refine hr rfl (ev_load rfl Tryz.isAgg3 zin rfl) rfl ?_
        refine hr rfl (ev_fieldAddr 5 rfl Tryz.underlying34 rfl Tryz.sizeOf3) rfl ?_
        refine hr rfl (ev_load rfl Tryz.isAgg3 zin rfl) rfl ?_
        refine hr rfl (ev_fieldAddr 2 rfl Tryz.underlying82 rfl Tryz.sizeOf48) rfl ?_
        refine hr rfl (ev_ixAddrA rfl rfl Tryz.underlying48 Tryz.sizeOf2 (by omega) (by omega)) rfl ?_
        refine hr rfl (ev_load (v := i64 (C.k.t.get cl)) rfl Tryz.isAgg2 zin (by rcases hcl4 with rfl | rfl | rfl | rfl <;> rfl)) rfl ?_
        refine hr rfl (ev_fieldAddr 6 rfl Tryz.underlying34 rfl Tryz.sizeOf2) rfl ?_
        refine hr rfl (ev_load rfl Tryz.isAgg2 zin rfl) rfl ?_
        refine hr rfl (ev_max rfl rfl) rfl ?_
        rw [if_max]
        refine hr rfl (ev_fieldAddr 2 rfl Tryz.underlying82 rfl Tryz.sizeOf48) rfl ?_
        refine hr rfl (ev_ixAddrA rfl rfl Tryz.underlying48 Tryz.sizeOf2 (by omega) (by omega)) rfl ?_
        refine hnil ?_
        refine ya0 (ac_store (vs' := keptL (putK C.k ⟨blk, ve, vs, data, dirty, cl, n⟩)) rfl rfl rfl Tryz.sizeOf2 zrp (by rcases hcl4 with rfl | rfl | rfl | rfl <;> rfl) (by rcases hcl4 with rfl | rfl | rfl | rfl <;> rfl)) ?_
        rintro v L' ⟨rfl, rfl⟩
        refine hnoP' (kthn ?_)
        first | (rw [hKe] at hJr11; exact ksub zsub zge (hJr11 () trivial)) | exact ksub zsub zge (hJr11 () trivial)
       ·(try simp only [sH] at h152)
        have hKe : putK C.k x = ⟨x.ve, x.vs, C.k.t⟩ := by unfold putK; rw [if_neg (by omega)]
        refine cskip' (kthn ?_)
        first | (rw [hKe] at hJr11; exact ksub zsub zge (hJr11 () trivial)) | exact ksub zsub zge (hJr11 () trivial)
end W
end Go.Proofs
