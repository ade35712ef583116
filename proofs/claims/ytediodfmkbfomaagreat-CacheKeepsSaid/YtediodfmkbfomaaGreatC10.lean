/- A part of the proof: contracts and plain lemmas, each without conditions beyond those that it names. -/
import Derived.Test.YtediodfmkbfomaaGreatC9
import Derived.Test.YtediodfmkbfomaaGreatGN
set_option linter.unusedVariables false
set_option linter.unusedSimpArgs false
set_option linter.constructorNameAsVariable false
namespace Go.Proofs
open Go Go.Sl
namespace W
set_option linter.unusedVariables false
abbrev keptL (k : KeptM) : List Value := [i64 k.e, i64 k.s, i64 k.t.a, i64 k.t.b, i64 k.t.c, i64 k.t.d]
theorem if_max (a b : Int) : (if b > a then b else a) = max a b := by rw [Int.max_def]; split <;> split <;> omega
theorem kDrop [Env] {R : List Seg} {A : CaA} {q : Q3} {sl : Sv} {C : CaM} {D : Dev} {b : Int} (hC : C.ok D) (hs : itOk sl C.l) :
   Con Tryz.prog 37 [ptr A.p, i64 b] [caP A C, enS A C, puS A C, lgS A q sl C, dev q D] R (KC A q C (C.drop D b)) := by
 have hdr : C.drop D b = if (aget C.en b).isSome = true then C.come D ⟨.drop b, C.k⟩ else (10, C, D) := rfl
 refine con_enter Tryz.func37 Tryz.ntmps37 rfl rfl ?_
 unfold caP caC enS
 refine cseq ?_; intro K1 hK1
 refine creg ?_
 refine yas ?_
 refine ynil' (kthn (hK1 _ _ ?_))
 clear hK1
 refine cseq ?_; intro K2 hK2
 refine cseq ?_; intro K3 hK3
 refine creg ?_
 refine ymv ?_
 refine yni ?_
 refine y (ev_fieldAddr 3 rfl Tryz.underlying84 rfl Tryz.sizeOf29) rfl ?_
 refine y (ev_load rfl Tryz.isAgg29 zin rfl) rfl ?_
 refine ymv ?_
 refine y (ev_lookup2 (z := entV .zero) (kv := akv entV C.en) rfl rfl Tryz.underlying29 Tryz.underlying3 Tryz.zeroValue34 zin) rfl ?_
 rw [akv_get, lk_entV, Option.isSome_map]
 refine ymv ?_
 refine yxt ?_
 refine yxt ?_
 refine ya (ac_alloc Tryz.zeroValue34 rfl) rfl ?_
 rintro v L' ⟨b5, rfl, rfl⟩
 refine ya0 (ac_storeAll rfl rfl (ent_one _) Tryz.sizeOf34 zrp rfl rfl) ?_
 rintro v L' ⟨rfl, rfl⟩
 refine yas ?_
 refine ynil' (kthn (hK3 _ _ ?_))
 clear hK3
 refine cseq ?_; intro K4 hK4
 refine creg ?_
 refine ymv ?_
 refine y (ev_not rfl) rfl ?_
 refine ynil' (kthn (hK4 _ _ ?_))
 clear hK4
 refine ccond rfl (fun h16 => ?_) (fun h16 => ?_)
 ·(try simp only [sH] at h16)
  rw [if_neg (by rw [h16]; simp)] at hdr
  refine cseq ?_; intro K5 hK5
  refine creg ?_
  refine yas ?_
  refine ynil' (kthn (hK5 _ _ ?_))
  clear hK5
  refine cret (kthr ?_)
  first
    | (exfalso; omega; done)
    | (refine kretv Tryz.results37 rfl (L1 := [sc A.p _ 84, so A.me _, puS A C, lgS A q sl C, dev q D] ++ R) zge ?_
       rw [hdr]; exact ⟨_, ⟨sl, rfl, hs, rfl⟩, rfl⟩)
 ·(try simp only [sH] at h16)
  rw [if_pos h16] at hdr
  refine cskip' (kthn (hK2 _ _ ?_))
  clear hK2
  refine cseq ?_; intro K6 hK6
  refine creg ?_
  obtain ⟨x0, hx0⟩ := Option.isSome_iff_exists.1 ‹(aget C.en b).isSome = true›; obtain ⟨hxo, hxb⟩ := ok_get hC hx0
  refine ymv ?_
  refine ymv ?_
  refine y (ev_build (zs := _) rfl Tryz.underlying93 Tryz.zeroValue93 rfl (.cons Tryz.sizeOf3 .nil) ⟨⟨_, _, rfl, (by first | rfl | simp), (by first | decide | simp)⟩, trivial⟩ (by dsimp [fillL, splice, vcells] <;> rfl)) rfl ?_
  refine y (ev_iface rfl (by kernel_rfl)) rfl ?_
  refine ymv ?_
  refine yni ?_
  refine y (ev_fieldAddr 5 rfl Tryz.underlying84 rfl Tryz.sizeOf82) rfl ?_
  refine y (ev_loadN (u := keptL C.k) rfl Tryz.isAgg82 Tryz.sizeOf82 zin rfl rfl) rfl ?_
  refine ycall (kCome (C := C) (sl := sl) (q := q) (D := D) (w := .drop b) (k := C.k) ?cok26 ?its26 ?rok26) rfl Tryz.call43 ztk rfl ?_
  case cok26 => exact hC
  case its26 => exact hs
  case rok26 => exact ⟨by have := hxo.blk; show 0 ≤ b ∧ b < C.bl; omega, hC.k⟩
  rintro v L' ⟨sl26, rfl, ok26, rfl⟩
  refine yas ?_
  refine ynil' (kthn (hK6 _ _ ?_))
  clear hK6
  refine cret ?_
  first
    | (exfalso; omega; done)
    | (refine kretv Tryz.results37 rfl (L1 := [caP A _, enS A _, puS A _, lgS A q sl26 _, dev q _] ++ R) zge ?_
       rw [hdr]; exact ⟨_, ⟨sl26, rfl, ok26, rfl⟩, rfl⟩)
theorem kClean [Env] {R : List Seg} {A : CaA} {q : Q3} {sl : Sv} {C : CaM} {D : Dev} {b e s : Int} (hC : C.ok D) (hs : itOk sl C.l) :
   Con Tryz.prog 16 [ptr A.p, i64 b, .agg #[i64 e, i64 s]] [caP A C, enS A C, puS A C, lgS A q sl C, dev q D] R (KC A q C (C.clean D b e s)) := by
 refine con_enter Tryz.func16 Tryz.ntmps16 rfl rfl ?_
 unfold caP caC enS
 refine cseq ?_; intro K1 hK1
 refine creg ?_
 refine ya (ac_box (vs := [i64 e, i64 s]) rfl rfl) rfl ?_
 rintro v L' ⟨b5, rfl, rfl⟩
 refine yas ?_
 refine ynil' (kthn (hK1 _ _ ?_))
 clear hK1
 refine cseq ?_; intro K2 hK2
 refine creg ?_
 refine ymv ?_
 refine yni ?_
 refine y (ev_fieldAddr 3 rfl Tryz.underlying84 rfl Tryz.sizeOf29) rfl ?_
 refine y (ev_load rfl Tryz.isAgg29 zin rfl) rfl ?_
 refine ymv ?_
 refine y (ev_lookup2 (z := entV .zero) (kv := akv entV C.en) rfl rfl Tryz.underlying29 Tryz.underlying3 Tryz.zeroValue34 zin) rfl ?_
 rw [akv_get, lk_entV, Option.isSome_map]
 rcases hg : aget C.en b with _ | x0
 ·skip
  refine ymv ?_
  refine yxt ?_
  refine yxt ?_
  refine ya (ac_alloc Tryz.zeroValue34 rfl) rfl ?_
  rintro v L' ⟨b7, rfl, rfl⟩
  refine ya0 (ac_storeAll rfl rfl (ent_one _) Tryz.sizeOf34 zrp rfl rfl) ?_
  rintro v L' ⟨rfl, rfl⟩
  refine yas ?_
  refine ynil' (kthn (hK2 _ _ ?_))
  clear hK2
  refine cseq ?_; intro K3 hK3
  refine cblock ?_
  refine cseq ?_; intro K4 hK4
  refine creg ?_
  first | (have hcl : C.clean D b e s = if ¬ (x0.ve = e ∧ x0.vs = s) then (10, C, D) else if x0.dirty = false then (0, C, D) else C.come D ⟨.clean b e s, C.k⟩ := by unfold CaM.clean; rw [hg]) | (have hcl : C.clean D b e s = (10, C, D) := by unfold CaM.clean; rw [hg])
  refine ymv ?_
  refine y (ev_not rfl) rfl ?_
  refine ymv ?_
  refine ygz ?_
  refine ygz ?_
  refine ygz ?_
  refine ygz ?_
  refine ypa ?_
  refine yas ?_
  refine ynil' (kthn (hK4 _ _ ?_))
  clear hK4
  refine ccond1 rfl ?_
  refine cseq ?_; intro K5 hK5
  refine creg ?_
  refine yas ?_
  refine ynil' (kthn (hK5 _ _ ?_))
  clear hK5
  refine cret (kbr (kthr ?_))
  first
    | (exfalso; omega; done)
    | (refine kretv Tryz.results16 rfl (L1 := [sc A.p _ 84, so A.me _, puS A C, lgS A q sl C, dev q D] ++ R) zge ?_
       rw [hcl]; exact ⟨_, ⟨sl, rfl, hs, rfl⟩, rfl⟩)
 ·skip
  refine ymv ?_
  refine yxt ?_
  refine yxt ?_
  refine ya (ac_alloc Tryz.zeroValue34 rfl) rfl ?_
  rintro v L' ⟨b7, rfl, rfl⟩
  refine ya0 (ac_storeAll rfl rfl (ent_one _) Tryz.sizeOf34 zrp rfl rfl) ?_
  rintro v L' ⟨rfl, rfl⟩
  refine yas ?_
  refine ynil' (kthn (hK2 _ _ ?_))
  clear hK2
  refine cseq ?_; intro K6 hK6
  refine cblock ?_
  refine cseq ?_; intro K7 hK7
  refine creg ?_
  first | (have hcl : C.clean D b e s = if ¬ (x0.ve = e ∧ x0.vs = s) then (10, C, D) else if x0.dirty = false then (0, C, D) else C.come D ⟨.clean b e s, C.k⟩ := by unfold CaM.clean; rw [hg]) | (have hcl : C.clean D b e s = (10, C, D) := by unfold CaM.clean; rw [hg])
  refine ymv ?_
  refine y (ev_not rfl) rfl ?_
  refine ymv ?_
  refine ygo ?_
  refine y (ev_fieldAddr 1 rfl Tryz.underlying34 rfl Tryz.sizeOf31) rfl ?_
  refine ygo ?_
  refine y (ev_loadN (u := [i64 x0.ve, i64 x0.vs]) rfl Tryz.isAgg31 Tryz.sizeOf31 zin rfl rfl) rfl ?_
  refine ygo ?_
  refine y (ev_loadN (u := [i64 e, i64 s]) rfl Tryz.isAgg31 Tryz.sizeOf31 zin rfl rfl) rfl ?_
  refine ygo ?_
  refine y (ev_neqF rfl rfl (by kernel_rfl) (by simp only [List.cons.injEq, Value.int.injEq, Value.string.injEq, Value.bool.injEq, str_inj, intsV_inj, MsgM.cells_inj, true_and, and_true]; exact Iff.rfl)) rfl ?_
  refine ypb ?_
  refine yas ?_
  refine ynil' (kthn (hK7 _ _ ?_))
  clear hK7
  refine ccond rfl (fun h63 => ?_) (fun h63 => ?_)
  ·(try simp only [sH] at h63)
   rw [if_pos h63] at hcl
   refine cseq ?_; intro K8 hK8
   refine creg ?_
   refine yas ?_
   refine ynil' (kthn (hK8 _ _ ?_))
   clear hK8
   refine cret (kbr (kthr ?_))
   first
     | (exfalso; omega; done)
     | (refine kretv Tryz.results16 rfl (L1 := [sc A.p _ 84, so A.me _, puS A C, lgS A q sl C, dev q D] ++ R) zge ?_
        rw [hcl]; exact ⟨_, ⟨sl, rfl, hs, rfl⟩, rfl⟩)
  ·(try simp only [sH] at h63)
   rw [if_neg (fun hz => hz h63)] at hcl
   refine cseq ?_; intro K9 hK9
   refine creg ?_
   refine y (ev_fieldAddr 4 rfl Tryz.underlying34 rfl Tryz.sizeOf4) rfl ?_
   refine y (ev_load rfl Tryz.isAgg4 zin rfl) rfl ?_
   refine y (ev_not rfl) rfl ?_
   refine yas ?_
   refine ynil' (kthn (hK9 _ _ ?_))
   clear hK9
   refine ccond rfl (fun h69 => ?_) (fun h69 => ?_)
   ·(try simp only [sH] at h69)
    have hdy : x0.dirty = false := h69
    rw [if_pos hdy] at hcl
    refine cseq ?_; intro K10 hK10
    refine creg ?_
    refine yas ?_
    refine ynil' (kthn (hK10 _ _ ?_))
    clear hK10
    refine cret (kbr (kthr ?_))
    first
      | (exfalso; omega; done)
      | (refine kretv Tryz.results16 rfl (L1 := [sc A.p _ 84, so A.me _, puS A C, lgS A q sl C, dev q D] ++ R) zge ?_
         rw [hcl]; exact ⟨_, ⟨sl, rfl, hs, rfl⟩, rfl⟩)
   ·(try simp only [sH] at h69)
    have hdy : x0.dirty = true := h69
    rw [if_neg (by rw [hdy]; simp)] at hcl
    refine cskip' (kbn (kthn (hK6 _ _ ?_)))
    clear hK6
    refine cseq ?_; intro K11 hK11
    refine cdraw 9 [(0, true), (1, true), (2, true), (3, true), (4, true), (5, true), (6, true), (7, true), (8, true)] (_) Tryz.mixed (by kernel_rfl) .refl ?_
    obtain ⟨hxo, hxb⟩ := ok_get hC hg
    refine hr rfl (ev_move rfl) rfl ?_
    refine hr rfl (ev_move rfl) rfl ?_
    refine hr rfl (ev_loadN (u := [i64 e, i64 s]) rfl Tryz.isAgg31 Tryz.sizeOf31 zin rfl rfl) rfl ?_
    refine hr rfl (ev_build (zs := _) rfl Tryz.underlying95 Tryz.zeroValue95 rfl (.cons Tryz.sizeOf3 (.cons Tryz.sizeOf31 .nil)) ⟨⟨_, _, rfl, (by first | rfl | simp), (by first | decide | simp)⟩, ⟨⟨_, _, rfl, (by first | rfl | simp), (by first | decide | simp)⟩, trivial⟩⟩ (by dsimp [fillL, splice, vcells] <;> rfl)) rfl ?_
    refine hr rfl (ev_iface rfl (by kernel_rfl)) rfl ?_
    refine hr rfl (ev_move rfl) rfl ?_
    refine hr rfl (ev_nil rfl) rfl ?_
    refine hr rfl (ev_fieldAddr 5 rfl Tryz.underlying84 rfl Tryz.sizeOf82) rfl ?_
    refine hr rfl (ev_loadN (u := keptL C.k) rfl Tryz.isAgg82 Tryz.sizeOf82 zin rfl rfl) rfl ?_
    refine hnil ?_
    refine ycall (kCome (C := C) (sl := sl) (q := q) (D := D) (w := .clean b e s) (k := C.k) ?cok80 ?its80 ?rok80) rfl Tryz.call43 ztk rfl ?_
    case cok80 => exact hC
    case its80 => exact hs
    case rok80 => exact ⟨⟨by have := hxo.blk; omega, by have := hxo.ve; omega, by have := hxo.vs; omega⟩, hC.k⟩
    rintro v L' ⟨sl40, rfl, ok40, rfl⟩
    refine yas ?_
    refine hnoP' (kthn (hK11 _ _ ?_))
    clear hK11
    refine cret ?_
    first
      | (exfalso; omega; done)
      | (refine kretv Tryz.results16 rfl (L1 := [caP A _, enS A _, puS A _, lgS A q sl40 _, dev q _] ++ R) zge ?_
         rw [hcl]; exact ⟨_, ⟨sl40, rfl, ok40, rfl⟩, rfl⟩)
theorem kReset [Env] {R : List Seg} {A : CaA} {q : Q3} {sl : Sv} {C : CaM} {D : Dev} {e s : Int} {v : Value} {ns : List Int} (hC : C.ok D) (hs : itOk sl C.l) (hv : RdV R v ns.length (intsV ns)) (hnl : ns.length < 1000000) :
   Con Tryz.prog 27 [ptr A.p, .agg #[i64 e, i64 s], v] [caP A C, enS A C, puS A C, lgS A q sl C, dev q D] R (KC A q C (C.reset D e s ns)) := by
 have hre : C.reset D e s ns = if wrongV e s ns = true then (1, C, D) else C.come D ⟨.note, ⟨e, s, t4Of ns⟩⟩ := rfl
 refine con_enter Tryz.func27 Tryz.ntmps27 rfl rfl ?_
 refine cseq ?_; intro K1 hK1
 refine creg ?_
 refine ya (ac_box (vs := [i64 e, i64 s]) rfl rfl) rfl ?_
 rintro v L' ⟨b4, rfl, rfl⟩
 refine yas ?_
 refine ynil' (kthn (hK1 _ _ ?_))
 clear hK1
 refine cseq ?_; intro K2 hK2
 refine cseq ?_; intro K3 hK3
 refine creg ?_
 refine y (ev_loadN (u := [i64 e, i64 s]) rfl Tryz.isAgg31 Tryz.sizeOf31 zin rfl rfl) rfl ?_
 refine ymv ?_
 refine ycall (kWrong (ns := ns) ?hv86 ?hl86) rfl Tryz.call51 ztk rfl ?_
 case hv86 => exact hv.mono zge
 case hl86 => exact hnl
 rintro v L' ⟨rfl, rfl⟩
 rw [show (!mayV e s 0 || decide (ns.length ≠ 4) || ns.any oddN) = wrongV e s ns from rfl]
 refine ynil' (kthn (hK3 _ _ ?_))
 clear hK3
 refine ccond rfl (fun h87 => ?_) (fun h87 => ?_)
 ·(try simp only [sH] at h87)
  rw [if_pos h87] at hre
  refine cseq ?_; intro K4 hK4
  refine creg ?_
  refine yas ?_
  refine ynil' (kthn (hK4 _ _ ?_))
  clear hK4
  refine cret (kthr ?_)
  first
    | (exfalso; omega; done)
    | (refine kretv Tryz.results27 rfl (L1 := [caP A C, enS A C, puS A C, lgS A q sl C, dev q D] ++ R) zge ?_
       rw [hre]; exact ⟨_, ⟨sl, rfl, hs, rfl⟩, rfl⟩)
 ·(try simp only [sH] at h87)
  rw [if_neg (by rw [h87]; simp)] at hre
  obtain ⟨he, hsn, n0, n1, n2, n3, rfl, h0, h1, h2, h3⟩ := wrong_no h87
  refine cskip' (kthn (hK2 _ _ ?_))
  clear hK2
  refine cseq ?_; intro K5 hK5
  refine creg ?_
  refine y (ev_loadN (u := [i64 e, i64 s]) rfl Tryz.isAgg31 Tryz.sizeOf31 zin rfl rfl) rfl ?_
  refine y (ev_build (zs := _) rfl Tryz.underlying82 Tryz.zeroValue82 rfl (.cons Tryz.sizeOf31 (.cons Tryz.sizeOf48 .nil)) ⟨⟨_, _, rfl, (by first | rfl | simp), (by first | decide | simp)⟩, trivial⟩ (by dsimp [fillL, splice, vcells] <;> rfl)) rfl ?_
  refine ya (ac_alloc Tryz.zeroValue82 rfl) rfl ?_
  rintro v L' ⟨b7, rfl, rfl⟩
  refine ya0 (ac_storeAll (us := [i64 e, i64 s, i64 0, i64 0, i64 0, i64 0]) rfl rfl (by simp [Value.oneCell']) Tryz.sizeOf82 zrp rfl rfl) ?_
  rintro v L' ⟨rfl, rfl⟩
  refine ynil' (kthn (hK5 _ _ ?_))
  clear hK5
  refine cseq ?_; intro K6 hK6
  refine creg ?_
  refine y (ev_fieldAddr 2 rfl Tryz.underlying82 rfl Tryz.sizeOf48) rfl ?_
  refine y (ev_slA rfl Tryz.underlying48 Tryz.sizeOf2) rfl ?_
  refine ymv ?_
  refine ya (ac_copyV (m := 4) (us := [i64 n0, i64 n1, i64 n2, i64 n3]) (vs' := [i64 e, i64 s, i64 n0, i64 n1, i64 n2, i64 n3]) rfl rfl Tryz.underlying56 Tryz.sizeOf2 ((hv.mono zge).src rfl) (by simp [Value.oneCell']) (by decide) zrp (by simp) rfl) rfl ?_
  rintro v L' ⟨rfl, rfl⟩
  refine ynil' (kthn (hK6 _ _ ?_))
  clear hK6
  refine cseq ?_; intro K7 hK7
  refine creg ?_
  refine ymv ?_
  refine y (ev_build (zs := []) (vs := []) rfl Tryz.underlying108 Tryz.zeroValue108 rfl .nil trivial rfl) rfl ?_
  refine y (ev_iface rfl (by kernel_rfl)) rfl ?_
  refine y (ev_loadN (u := [i64 e, i64 s, i64 n0, i64 n1, i64 n2, i64 n3]) rfl Tryz.isAgg82 Tryz.sizeOf82 zin rfl rfl) rfl ?_
  refine ycall (kCome (C := C) (sl := sl) (q := q) (D := D) (w := .note) (k := ⟨e, s, ⟨n0, n1, n2, n3⟩⟩) ?cok101 ?its101 ?rok101) rfl Tryz.call43 ztk rfl ?_
  case cok101 => exact hC
  case its101 => exact hs
  case rok101 => exact ⟨trivial, ⟨he, hsn, h0, h1, h2, h3⟩⟩
  rintro v L' ⟨sl21, rfl, ok21, rfl⟩
  refine yas ?_
  refine ynil' (kthn (hK7 _ _ ?_))
  clear hK7
  refine cret ?_
  first
    | (exfalso; omega; done)
    | (refine kretv Tryz.results27 rfl (L1 := [caP A _, enS A _, puS A _, lgS A q sl21 _, dev q _] ++ R) zge ?_
       rw [hre]; exact ⟨_, ⟨sl21, rfl, ok21, rfl⟩, rfl⟩)
theorem kNote [Env] {R : List Seg} {A : CaA} {q : Q3} {sl : Sv} {C : CaM} {D : Dev} {e s : Int} {v : Value} {ns : List Int} (hC : C.ok D) (hs : itOk sl C.l) (hv : RdV R v ns.length (intsV ns)) (hnl : ns.length < 1000000) :
   Con Tryz.prog 29 [ptr A.p, .agg #[i64 e, i64 s], v] [caP A C, enS A C, puS A C, lgS A q sl C, dev q D] R (KC A q C (C.note D e s ns)) := by
 have hre : C.note D e s ns = if wrongV e s ns = true then (1, C, D) else C.come D ⟨.note, noteK C.k e s (t4Of ns)⟩ := rfl
 have hvl := hv.lenVal
 refine con_enter Tryz.func29 Tryz.ntmps29 rfl rfl ?_
 unfold caP caC
 refine cseq ?_; intro K1 hK1
 refine creg ?_
 refine ya (ac_box (vs := [i64 e, i64 s]) rfl rfl) rfl ?_
 rintro v L' ⟨b4, rfl, rfl⟩
 refine yas ?_
 refine ynil' (kthn (hK1 _ _ ?_))
 clear hK1
 refine cseq ?_; intro K2 hK2
 refine cseq ?_; intro K3 hK3
 refine creg ?_
 refine y (ev_loadN (u := [i64 e, i64 s]) rfl Tryz.isAgg31 Tryz.sizeOf31 zin rfl rfl) rfl ?_
 refine ymv ?_
 refine ycall (kWrong (ns := ns) ?hv107 ?hl107) rfl Tryz.call51 ztk rfl ?_
 case hv107 => exact hv.mono zge
 case hl107 => exact hnl
 rintro v L' ⟨rfl, rfl⟩
 rw [show (!mayV e s 0 || decide (ns.length ≠ 4) || ns.any oddN) = wrongV e s ns from rfl]
 refine ynil' (kthn (hK3 _ _ ?_))
 clear hK3
 refine ccond rfl (fun h108 => ?_) (fun h108 => ?_)
 ·(try simp only [sH] at h108)
  rw [if_pos h108] at hre
  refine cseq ?_; intro K4 hK4
  refine creg ?_
  refine yas ?_
  refine ynil' (kthn (hK4 _ _ ?_))
  clear hK4
  refine cret (kthr ?_)
  first
    | (exfalso; omega; done)
    | (refine kretv Tryz.results29 rfl (L1 := [sc A.p _ 84, enS A C, puS A C, lgS A q sl C, dev q D] ++ R) zge ?_
       rw [hre]; exact ⟨_, ⟨sl, rfl, hs, rfl⟩, rfl⟩)
 ·(try simp only [sH] at h108)
  rw [if_neg (by rw [h108]; simp)] at hre
  obtain ⟨he, hsn, n0, n1, n2, n3, rfl, h0, h1, h2, h3⟩ := wrong_no h108
  refine cskip' (kthn (hK2 _ _ ?_))
  clear hK2
  refine cseq ?_; intro K5 hK5
  refine creg ?_
  refine ymv ?_
  refine yni ?_
  refine y (ev_fieldAddr 5 rfl Tryz.underlying84 rfl Tryz.sizeOf82) rfl ?_
  refine y (ev_loadN (u := keptL C.k) rfl Tryz.isAgg82 Tryz.sizeOf82 zin rfl rfl) rfl ?_
  refine ya (ac_alloc Tryz.zeroValue82 rfl) rfl ?_
  rintro v L' ⟨b7, rfl, rfl⟩
  refine ya0 (ac_storeAll (us := keptL C.k) rfl rfl (by simp [Value.oneCell']) Tryz.sizeOf82 zrp rfl rfl) ?_
  rintro v L' ⟨rfl, rfl⟩
  refine ynil' (kthn (hK5 _ _ ?_))
  clear hK5
  refine cseq ?_; intro K6 hK6
  have hJr6 : ∀ x : Int × Int, ((if aboveV e s C.k.e C.k.s = true then e else C.k.e) = x.1 ∧ (if aboveV e s C.k.e C.k.s = true then s else C.k.s) = x.2) → Sk 45 K6 ([(7, ptr b7), (0, ptr A.p), (2, v)]) ([sc b7 [i64 x.1, i64 x.2, i64 C.k.t.a, i64 C.k.t.b, i64 C.k.t.c, i64 C.k.t.d] 82, sc A.p (caC A C) 84, enS A C, puS A C, lgS A q sl C, dev q D] ++ R) := by
   rintro ⟨e', s'⟩ hIr6
   refine hK6 _ _ ?_
   obtain ⟨hne1, hne2⟩ := hIr6; dsimp only at hne1 hne2 ⊢; unfold caC
   refine cseq ?_; intro K7 hK7
   refine cseq ?_; intro K8 hK8
   refine creg ?_
   refine ymv ?_
   refine y (ev_lenV rfl Tryz.underlying56 hvl) rfl ?_
   refine ymv ?_
   refine ynil' (kthn (hK8 _ _ ?_))
   clear hK8
   have hJ1 : ∀ x : Nat, ((x ≤ 4) ∧ (x = 4)) → Sk 45 K7 ([(25, i64 x), (24, i64 4), (23, v), (7, ptr b7), (0, ptr A.p)]) ([sc b7 [i64 e', i64 s', i64 (C.k.t.maxTo ⟨n0, n1, n2, n3⟩ x).a, i64 (C.k.t.maxTo ⟨n0, n1, n2, n3⟩ x).b, i64 (C.k.t.maxTo ⟨n0, n1, n2, n3⟩ x).c, i64 (C.k.t.maxTo ⟨n0, n1, n2, n3⟩ x).d] 82, sc A.p (caC A C) 84, enS A C, puS A C, lgS A q sl C, dev q D] ++ R) := by
    rintro i ⟨hI1, hX1⟩
    refine hK7 _ _ ?_
    have hi := hI1; unfold caC
    subst hX1
    refine cseq ?_; intro K9 hK9
    refine creg ?_
    have hnk : noteK C.k e s (t4Of [n0, n1, n2, n3]) = ⟨e', s', C.k.t.maxTo ⟨n0, n1, n2, n3⟩ 4⟩ := by unfold noteK; rw [hne1, hne2]; rfl
    have hnok := noteK_ok (e := e) (s := s) hC.k he hsn h0 h1 h2 h3
    rw [show (⟨n0, n1, n2, n3⟩ : T4) = t4Of [n0, n1, n2, n3] from rfl, hnk] at hnok
    rw [hnk] at hre
    refine ymv ?_
    refine y (ev_build (zs := []) (vs := []) rfl Tryz.underlying108 Tryz.zeroValue108 rfl .nil trivial rfl) rfl ?_
    refine y (ev_iface rfl (by kernel_rfl)) rfl ?_
    refine y (ev_loadN (u := [i64 e', i64 s', i64 (C.k.t.maxTo ⟨n0, n1, n2, n3⟩ 4).a, i64 (C.k.t.maxTo ⟨n0, n1, n2, n3⟩ 4).b, i64 (C.k.t.maxTo ⟨n0, n1, n2, n3⟩ 4).c, i64 (C.k.t.maxTo ⟨n0, n1, n2, n3⟩ 4).d]) rfl Tryz.isAgg82 Tryz.sizeOf82 zin rfl rfl) rfl ?_
    refine ycall (kCome (C := C) (sl := sl) (q := q) (D := D) (w := .note) (k := ⟨e', s', C.k.t.maxTo ⟨n0, n1, n2, n3⟩ 4⟩) ?cok123 ?its123 ?rok123) rfl Tryz.call43 ztk rfl ?_
    case cok123 => exact hC
    case its123 => exact hs
    case rok123 => exact ⟨trivial, hnok⟩
    rintro v L' ⟨sl44, rfl, ok44, rfl⟩
    refine yas ?_
    refine ynil' (kthn (hK9 _ _ ?_))
    clear hK9
    refine cret ?_
    first
      | (exfalso; omega; done)
      | (refine kretv Tryz.results29 rfl (L1 := [caP A _, enS A _, puS A _, lgS A q sl44 _, dev q _] ++ R) zge ?_
         rw [hre]; exact ⟨_, ⟨sl44, rfl, ok44, rfl⟩, rfl⟩)
   clear hK7
   refine cblock ?_
   refine cloop (A := Nat) (fun x => [(25, i64 x), (24, i64 4), (23, v), (7, ptr b7), (0, ptr A.p)]) (fun x => [sc b7 [i64 e', i64 s', i64 (C.k.t.maxTo ⟨n0, n1, n2, n3⟩ x).a, i64 (C.k.t.maxTo ⟨n0, n1, n2, n3⟩ x).b, i64 (C.k.t.maxTo ⟨n0, n1, n2, n3⟩ x).c, i64 (C.k.t.maxTo ⟨n0, n1, n2, n3⟩ x).d] 82, sc A.p (caC A C) 84, enS A C, puS A C, lgS A q sl C, dev q D] ++ R) (fun x => x ≤ 4) (fun x => 4 - x) (0) ?_ zsub zge ?_
   · exact Nat.zero_le _
   rintro i hI1 KL1 hL1
   have hI1o := hI1
   have hi := hI1; unfold caC
   refine cseq ?_; intro K10 hK10
   refine creg ?_
   refine y (ev_lss rfl rfl) rfl ?_
   refine ynil' (kthn (hK10 _ _ ?_))
   clear hK10
   refine cseq ?_; intro K11 hK11
   refine ccond rfl (fun h126 => ?_) (fun h126 => ?_)
   ·(try simp only [sH] at h126)
    refine cskip' (kthn (hK11 _ _ ?_))
    clear hK11
    refine cseq ?_; intro K12 hK12
    refine cblock ?_
    refine cseq ?_; intro K13 hK13
    refine creg ?_
    have hi4 : i = 0 ∨ i = 1 ∨ i = 2 ∨ i = 3 := by omega
    obtain ⟨y0, hy0⟩ : ∃ y0, ([n0, n1, n2, n3] : List Int)[i]? = some y0 := ⟨_, List.getElem?_eq_getElem (by show i < 4; omega)⟩
    refine ymv ?_
    refine y (ev_ixV hv rfl rfl Tryz.underlying56 Tryz.sizeOf2 (by omega) (by show (i : Int) < 4; omega)) rfl ?_
    refine y (ev_loadV i hv zge rfl Tryz.isAgg2 (by simp) (intsV_get hy0)) rfl ?_
    refine yas ?_
    refine yas ?_
    refine ynil' (kthn (hK13 _ _ ?_))
    clear hK13
    refine creg ?_
    refine ymv ?_
    refine ymv ?_
    refine y (ev_fieldAddr 2 rfl Tryz.underlying82 rfl Tryz.sizeOf48) rfl ?_
    refine y (ev_ixAddrA rfl rfl Tryz.underlying48 Tryz.sizeOf2 (by omega) (by omega)) rfl ?_
    refine y (ev_load (v := i64 (C.k.t.get i)) rfl Tryz.isAgg2 zin (by rcases hi4 with rfl | rfl | rfl | rfl <;> rfl)) rfl ?_
    refine ymv ?_
    refine y (ev_max rfl rfl) rfl ?_
    rw [if_max]
    refine y (ev_fieldAddr 2 rfl Tryz.underlying82 rfl Tryz.sizeOf48) rfl ?_
    refine y (ev_ixAddrA rfl rfl Tryz.underlying48 Tryz.sizeOf2 (by omega) (by omega)) rfl ?_
    refine ya0 (ac_store (vs' := [i64 e', i64 s', i64 (C.k.t.maxTo ⟨n0, n1, n2, n3⟩ (i + 1)).a, i64 (C.k.t.maxTo ⟨n0, n1, n2, n3⟩ (i + 1)).b, i64 (C.k.t.maxTo ⟨n0, n1, n2, n3⟩ (i + 1)).c, i64 (C.k.t.maxTo ⟨n0, n1, n2, n3⟩ (i + 1)).d]) rfl rfl rfl Tryz.sizeOf2 zrp (by rcases hi4 with rfl | rfl | rfl | rfl <;> rfl) (by rcases hi4 with rfl | rfl | rfl | rfl <;> (simp only [List.getElem?_cons_zero, List.getElem?_cons_succ, Option.some.injEq] at hy0; subst hy0; rfl))) ?_
    rintro v L' ⟨rfl, rfl⟩
    refine ynil' (kbn (kthn (hK12 _ _ ?_)))
    clear hK12
    refine creg ?_
    refine y (ev_add rfl rfl) rfl ?_
    rw [show IntKind.i64.wrap ((i:Int) + 1) = ((i+1 : Nat) : Int) by rw [wr (by omega) (by omega)]; rfl]
    refine ymv ?_
    refine ynil' (kthn ?_)
    exact hL1 (i + 1) (by omega) (by omega) _ _ zsub zge
   ·(try simp only [sH] at h126)
    refine cexit (kthx (kthx (kbx (kthn ?_))))
    exact ksub zsub zge (hJ1 i ⟨hI1o, by first | trivial | omega⟩)
  clear hK6
  refine cseq ?_; intro K14 hK14
  refine creg ?_
  refine y (ev_loadN (u := [i64 e, i64 s]) rfl Tryz.isAgg31 Tryz.sizeOf31 zin rfl rfl) rfl ?_
  refine y (ev_fieldAddr 0 rfl Tryz.underlying82 rfl Tryz.sizeOf31) rfl ?_
  refine y (ev_loadN (u := [i64 C.k.e, i64 C.k.s]) rfl Tryz.isAgg31 Tryz.sizeOf31 zin rfl rfl) rfl ?_
  refine ycall (kAbove) rfl Tryz.call39 ztk rfl ?_
  rintro v L' ⟨rfl, rfl⟩
  refine ynil' (kthn (hK14 _ _ ?_))
  clear hK14
  refine ccond rfl (fun h148 => ?_) (fun h148 => ?_)
  ·(try simp only [sH] at h148)
   have hne : (if aboveV e s C.k.e C.k.s = true then e else C.k.e) = e ∧ (if aboveV e s C.k.e C.k.s = true then s else C.k.s) = s := ⟨if_pos h148, if_pos h148⟩
   refine creg ?_
   refine y (ev_loadN (u := [i64 e, i64 s]) rfl Tryz.isAgg31 Tryz.sizeOf31 zin rfl rfl) rfl ?_
   refine y (ev_fieldAddr 0 rfl Tryz.underlying82 rfl Tryz.sizeOf31) rfl ?_
   refine ya0 (ac_storeN (vs' := [i64 e, i64 s, i64 C.k.t.a, i64 C.k.t.b, i64 C.k.t.c, i64 C.k.t.d]) rfl rfl (by simp [Value.oneCell']) Tryz.sizeOf31 zrp rfl (by simp) rfl) ?_
   rintro v L' ⟨rfl, rfl⟩
   refine ynil' (kthn ?_)
   first | exact ksub zsub zge (hJr6 (e, s) hne) | exact ksub zsub zge (hJr6 (C.k.e, C.k.s) hne)
  ·(try simp only [sH] at h148)
   have hne : (if aboveV e s C.k.e C.k.s = true then e else C.k.e) = C.k.e ∧ (if aboveV e s C.k.e C.k.s = true then s else C.k.s) = C.k.s := ⟨if_neg (by rw [h148]; simp), if_neg (by rw [h148]; simp)⟩
   refine cskip' (kthn ?_)
   first | exact ksub zsub zge (hJr6 (e, s) hne) | exact ksub zsub zge (hJr6 (C.k.e, C.k.s) hne)
end W
end Go.Proofs
