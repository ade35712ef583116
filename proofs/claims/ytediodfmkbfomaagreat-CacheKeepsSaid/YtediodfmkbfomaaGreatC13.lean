/- A part of the proof: contracts and plain lemmas, each without conditions beyond those that it names. -/
import Derived.Test.YtediodfmkbfomaaGreatC12
import Derived.Test.YtediodfmkbfomaaGreatGO
set_option linter.unusedVariables false
set_option linter.unusedSimpArgs false
set_option linter.constructorNameAsVariable false
namespace Go.Proofs
open Go Go.Sl
namespace W
set_option linter.unusedVariables false
theorem nLarge9 [Env] {R : List Seg} {x : ActC} (hx : x.ok R) : Con Tryz.prog 24 [.agg x.cells.toArray] [] R (fun u L' => ∃ b, u = .bool b ∧ (b = false → x.s.length ≤ 1000 ∧ x.ks.length ≤ 600 ∧ x.x.data.length ≤ 1000 ∧ x.ts.length ≤ 100) ∧ L' = []) := by
 have hkl := hx.keeps.lenVal
 have htl := hx.nums.lenVal
 refine con_enter Tryz.func24 Tryz.ntmps24 rfl rfl ?_
 refine cseq ?_; intro K1 hK1
 refine creg ?_
 refine ya (ac_box (vs := x.cells) rfl rfl) rfl ?_
 rintro v L' ⟨b1, rfl, rfl⟩
 refine yas ?_
 refine ynil' (kthn (hK1 _ _ ?_))
 clear hK1
 refine cseq ?_; intro K2 hK2
 refine creg ?_
 refine y (ev_fieldAddr 10 rfl Tryz.underlying59 rfl Tryz.sizeOf9) rfl ?_
 refine y (ev_load rfl Tryz.isAgg9 zin rfl) rfl ?_
 first
   | refine y (ev_lenStr rfl Tryz.underlying9) rfl ?_
   | refine y (ev_lenS rfl Tryz.underlying9) rfl ?_
 refine y (ev_gtr rfl rfl) rfl ?_
 refine ymv ?_
 refine ysplit 7 rfl (fun h29 => ?_) (fun h29 => ?_)
 ·(try simp only [sH] at h29)
  refine ygz ?_
  refine ygz ?_
  refine ygz ?_
  refine ygz ?_
  refine ypa ?_
  refine ymv ?_
  refine ygz ?_
  refine ygz ?_
  refine ygz ?_
  refine ygz ?_
  refine ygz ?_
  refine ypa ?_
  refine ymv ?_
  refine ygz ?_
  refine ygz ?_
  refine ygz ?_
  refine ygz ?_
  refine ypa ?_
  refine yas ?_
  refine ynil' (kthn (hK2 _ _ ?_))
  clear hK2
  refine cret ?_
  first
    | (exfalso; omega; done)
    | (refine kretv Tryz.results24 rfl (L1 := [] ++ R) zge ?_
       exact ⟨_, ⟨_, rfl, fun h => by first | omega | (simp at h; done) | (simp at h; omega), rfl⟩, rfl⟩)
 ·(try simp only [sH] at h29)
  refine ygo ?_
  refine y (ev_fieldAddr 11 rfl Tryz.underlying59 rfl Tryz.sizeOf57) rfl ?_
  refine ygo ?_
  refine y (ev_load rfl Tryz.isAgg57 zin rfl) rfl ?_
  refine ygo ?_
  refine y (ev_lenV rfl Tryz.underlying57 hkl) rfl ?_
  refine ygo ?_
  refine y (ev_gtr rfl rfl) rfl ?_
  refine ypb ?_
  refine ymv ?_
  refine ysplit 13 rfl (fun h42 => ?_) (fun h42 => ?_)
  ·(try simp only [sH] at h42)
   refine ygz ?_
   refine ygz ?_
   refine ygz ?_
   refine ygz ?_
   refine ygz ?_
   refine ypa ?_
   refine ymv ?_
   refine ygz ?_
   refine ygz ?_
   refine ygz ?_
   refine ygz ?_
   refine ypa ?_
   refine yas ?_
   refine ynil' (kthn (hK2 _ _ ?_))
   clear hK2
   refine cret ?_
   first
     | (exfalso; omega; done)
     | (refine kretv Tryz.results24 rfl (L1 := [] ++ R) zge ?_
        exact ⟨_, ⟨_, rfl, fun h => by first | omega | (simp at h; done) | (simp at h; omega), rfl⟩, rfl⟩)
  ·(try simp only [sH] at h42)
   refine ygo ?_
   refine y (ev_fieldAddr 2 rfl Tryz.underlying59 rfl Tryz.sizeOf34) rfl ?_
   refine ygo ?_
   refine y (ev_fieldAddr 3 rfl Tryz.underlying34 rfl Tryz.sizeOf9) rfl ?_
   refine ygo ?_
   refine y (ev_load rfl Tryz.isAgg9 zin rfl) rfl ?_
   refine ygo ?_
   first
     | refine y (ev_lenStr rfl Tryz.underlying9) rfl ?_
     | refine y (ev_lenS rfl Tryz.underlying9) rfl ?_
   refine ygo ?_
   refine y (ev_gtr rfl rfl) rfl ?_
   refine ypb ?_
   refine ymv ?_
   refine ysplit 20 rfl (fun h54 => ?_) (fun h54 => ?_)
   ·(try simp only [sH] at h54)
    refine ygz ?_
    refine ygz ?_
    refine ygz ?_
    refine ygz ?_
    refine ypa ?_
    refine yas ?_
    refine ynil' (kthn (hK2 _ _ ?_))
    clear hK2
    refine cret ?_
    first
      | (exfalso; omega; done)
      | (refine kretv Tryz.results24 rfl (L1 := [] ++ R) zge ?_
         exact ⟨_, ⟨_, rfl, fun h => by first | omega | (simp at h; done) | (simp at h; omega), rfl⟩, rfl⟩)
   ·(try simp only [sH] at h54)
    refine ygo ?_
    refine y (ev_fieldAddr 9 rfl Tryz.underlying59 rfl Tryz.sizeOf56) rfl ?_
    refine ygo ?_
    refine y (ev_load rfl Tryz.isAgg56 zin rfl) rfl ?_
    refine ygo ?_
    refine y (ev_lenV rfl Tryz.underlying56 htl) rfl ?_
    refine ygo ?_
    refine y (ev_gtr rfl rfl) rfl ?_
    refine ypb ?_
    refine yas ?_
    refine ynil' (kthn (hK2 _ _ ?_))
    clear hK2
    refine cret ?_
    first
      | (exfalso; omega; done)
      | (refine kretv Tryz.results24 rfl (L1 := [] ++ R) zge ?_
         exact ⟨_, ⟨_, rfl, fun h => by first | omega | (simp at h; done) | (simp at h; omega), rfl⟩, rfl⟩)
theorem nSame9 [Env] {R : List Seg} {v1 v2 : Value} {u1 u2 : List EntM} (h1 : RdV R v1 u1.length (entsV u1)) (h2 : RdV R v2 u2.length (entsV u2)) (hl : u1.length ≤ 1000) (hl2 : u2.length ≤ 1000) :
   Con Tryz.prog 28 [v1, v2] [] R (Is (.bool (decide (u1 = u2))) []) := by
 have hv1 := h1.lenVal
 have hv2 := h2.lenVal
 refine con_enter Tryz.func28 Tryz.ntmps28 rfl rfl ?_
 refine cseq ?_; intro K1 hK1
 refine creg ?_
 refine yas ?_
 refine ynil' (kthn (hK1 _ _ ?_))
 clear hK1
 refine cseq ?_; intro K2 hK2
 refine cseq ?_; intro K3 hK3
 refine creg ?_
 refine ymv ?_
 refine y (ev_lenV rfl Tryz.underlying41 hv1) rfl ?_
 refine ymv ?_
 refine y (ev_lenV rfl Tryz.underlying41 hv2) rfl ?_
 refine y (ev_neq rfl rfl) rfl ?_
 refine ynil' (kthn (hK3 _ _ ?_))
 clear hK3
 refine ccond rfl (fun h69 => ?_) (fun h69 => ?_)
 ·(try simp only [sH] at h69)
  have hne : u1 ≠ u2 := fun e => by rw [e] at h69; simp at h69
  refine cseq ?_; intro K4 hK4
  refine creg ?_
  refine yas ?_
  refine ynil' (kthn (hK4 _ _ ?_))
  clear hK4
  refine cret (kthr ?_)
  first
    | (exfalso; omega; done)
    | (refine kretv Tryz.results28 rfl (L1 := [] ++ R) zge ?_
       exact ⟨_, ⟨by first | rw [decide_eq_false hne] | rw [decide_eq_true heq], rfl⟩, rfl⟩)
 ·(try simp only [sH] at h69)
  have hle : u1.length = u2.length := by omega
  refine cskip' (kthn (hK2 _ _ ?_))
  clear hK2
  refine cseq ?_; intro K5 hK5
  refine cseq ?_; intro K6 hK6
  refine creg ?_
  refine ymv ?_
  refine y (ev_lenV rfl Tryz.underlying41 hv1) rfl ?_
  refine ymv ?_
  refine ynil' (kthn (hK6 _ _ ?_))
  clear hK6
  have hJ1 : ∀ x : Nat, ((x ≤ u1.length ∧ u1.take x = u2.take x) ∧ (x = u1.length)) → Sk 26 K5 ([(13, i64 x), (12, i64 u1.length), (0, v1), (1, v2)]) (R) := by
   rintro k ⟨hI1, hX1⟩
   refine hK5 _ _ ?_
   obtain ⟨hk, htk⟩ := hI1
   have heq : u1 = u2 := by rw [hX1, List.take_length, hle, List.take_length] at htk; exact htk
   refine cseq ?_; intro K7 hK7
   refine creg ?_
   refine yas ?_
   refine ynil' (kthn (hK7 _ _ ?_))
   clear hK7
   refine cret ?_
   first
     | (exfalso; omega; done)
     | (refine kretv Tryz.results28 rfl (L1 := [] ++ R) zge ?_
        exact ⟨_, ⟨by first | rw [decide_eq_false hne] | rw [decide_eq_true heq], rfl⟩, rfl⟩)
  clear hK5
  refine cblock ?_
  refine cloop (A := Nat) (fun x => [(13, i64 x), (12, i64 u1.length), (0, v1), (1, v2)]) (fun x => R) (fun x => x ≤ u1.length ∧ u1.take x = u2.take x) (fun x => u1.length - x) (0) ?_ zsub zge ?_
  · exact ⟨Nat.zero_le _, by simp⟩
  rintro k hI1 KL1 hL1
  have hI1o := hI1
  obtain ⟨hk, htk⟩ := hI1
  refine cseq ?_; intro K8 hK8
  refine creg ?_
  refine y (ev_lss rfl rfl) rfl ?_
  refine ynil' (kthn (hK8 _ _ ?_))
  clear hK8
  refine cseq ?_; intro K9 hK9
  refine ccond rfl (fun h76 => ?_) (fun h76 => ?_)
  ·(try simp only [sH] at h76)
   refine cskip' (kthn (hK9 _ _ ?_))
   clear hK9
   refine cseq ?_; intro K10 hK10
   refine cblock ?_
   refine cseq ?_; intro K11 hK11
   refine creg ?_
   refine ymv ?_
   refine yas ?_
   refine ynil' (kthn (hK11 _ _ ?_))
   clear hK11
   refine cseq ?_; intro K12 hK12
   refine cdraw 8 [(0, true), (1, true), (2, true), (3, true), (4, true), (5, true), (6, true), (7, true)] (_) Tryz.mixed (by kernel_rfl) .refl ?_
   obtain ⟨y1, hy1⟩ : ∃ y, u1[k]? = some y := ⟨_, List.getElem?_eq_getElem (by omega)⟩
   obtain ⟨y2, hy2⟩ : ∃ y, u2[k]? = some y := ⟨_, List.getElem?_eq_getElem (by omega)⟩
   refine hr rfl (ev_move rfl) rfl ?_
   refine hr rfl (ev_move rfl) rfl ?_
   refine hr rfl (ev_ixV h1 rfl rfl Tryz.underlying41 Tryz.sizeOf34 (by omega) (by omega)) rfl ?_
   refine hr rfl (ev_loadNV (us := y1.cells) (k * 7) h1 zge rfl Tryz.isAgg34 Tryz.sizeOf34 (by simp) (entsV_get hy1) rfl) rfl ?_
   refine hr rfl (ev_move rfl) rfl ?_
   refine hr rfl (ev_move rfl) rfl ?_
   refine hr rfl (ev_ixV h2 rfl rfl Tryz.underlying41 Tryz.sizeOf34 (by omega) (by omega)) rfl ?_
   refine hr rfl (ev_loadNV (us := y2.cells) (k * 7) h2 zge rfl Tryz.isAgg34 Tryz.sizeOf34 (by simp) (entsV_get hy2) rfl) rfl ?_
   refine hnil ?_
   refine y (ev_neqF (p := y1 = y2) rfl rfl (by kernel_rfl) (iff_of_eq ent_inj)) rfl ?_
   refine hnoP' (kthn (hK12 _ _ ?_))
   clear hK12
   refine ccond rfl (fun h88 => ?_) (fun h88 => ?_)
   ·(try simp only [sH] at h88)
    have hne : u1 ≠ u2 := fun e => by subst e; rw [hy1] at hy2; exact h88 (Option.some.inj hy2)
    refine cseq ?_; intro K13 hK13
    refine creg ?_
    refine yas ?_
    refine ynil' (kthn (hK13 _ _ ?_))
    clear hK13
    refine cret (kbr (kthr (kthr (kbr (kthr ?_)))))
    first
      | (exfalso; omega; done)
      | (refine kretv Tryz.results28 rfl (L1 := [] ++ R) zge ?_
         exact ⟨_, ⟨by first | rw [decide_eq_false hne] | rw [decide_eq_true heq], rfl⟩, rfl⟩)
   ·(try simp only [sH] at h88)
    have hnx : u1.take (k + 1) = u2.take (k + 1) := by rw [take_snoc hy1, take_snoc hy2, htk, h88]
    refine cskip' (kbn (kthn (hK10 _ _ ?_)))
    clear hK10
    refine creg ?_
    refine y (ev_add rfl rfl) rfl ?_
    rw [show IntKind.i64.wrap ((k:Int) + 1) = ((k+1 : Nat) : Int) by rw [wr (by omega) (by omega)]; rfl]
    refine ymv ?_
    refine ynil' (kthn ?_)
    exact hL1 (k + 1) (⟨by omega, hnx⟩) (by omega) _ _ zsub zge
  ·(try simp only [sH] at h76)
   refine cexit (kthx (kthx (kbx (kthn ?_))))
   exact ksub zsub zge (hJ1 k ⟨hI1o, by first | trivial | omega⟩)
abbrev toldV (s : Sv) (m : Nat) (k : KeptM) : Value := .agg #[svVal s m, i64 k.e, i64 k.s, i64 k.t.a, i64 k.t.b, i64 k.t.c, i64 k.t.d]
abbrev toldA (v : Value) (k : KeptM) : Value := .agg #[v, i64 k.e, i64 k.s, i64 k.t.a, i64 k.t.b, i64 k.t.c, i64 k.t.d]
theorem all_le {C : CaM} {D : Dev} (h : C.ok D) : C.all.length ≤ 32 := by
 have h1 := allTo_len C C.bl
 have h2 := h.bl
 show (allTo C C.bl).length ≤ 32
 omega
theorem nTold [Env] {R : List Seg} {A : CaA} {C : CaM} (hb : C.bl ≤ 32) : Con Tryz.prog 22 [ptr A.p] [caP A C, enS A C] R (fun u L' => ∃ s, u = toldV s C.all.length C.k ∧ svOk s C.all.length 7 (entsV C.all) ∧ L' = [svSeg s 34 (entsV C.all), caP A C, enS A C]) := by
 refine con_enter Tryz.func22 Tryz.ntmps22 rfl rfl ?_
 refine cseq ?_; intro K1 hK1
 refine creg ?_
 refine ya (ac_alloc Tryz.zeroValue50 rfl) rfl ?_
 rintro v L' ⟨b2, rfl, rfl⟩
 refine ynil' (kthn (hK1 _ _ ?_))
 clear hK1
 refine cseq ?_; intro K2 hK2
 refine creg ?_
 refine ymv ?_
 refine ycall (kAll ?bl94) rfl Tryz.call17 ztk rfl ?_
 case bl94 => exact hb
 rintro v L' ⟨s6, rfl, ok6, rfl⟩
 refine ymv ?_
 refine ycall (kLast) rfl Tryz.call19 ztk rfl ?_
 rintro v L' ⟨rfl, rfl⟩
 refine y (ev_build (zs := [.slice none 0 0, i64 0, i64 0, i64 0, i64 0, i64 0, i64 0]) (vs := [svVal s6 C.all.length, i64 C.k.e, i64 C.k.s, i64 0, i64 0, i64 0, i64 0]) rfl Tryz.underlying50 Tryz.zeroValue50 rfl (.cons Tryz.sizeOf41 (.cons Tryz.sizeOf31 (.cons Tryz.sizeOf48 .nil))) ⟨⟨_, _, rfl, (by cases s6 <;> rfl), (by decide)⟩, ⟨_, _, rfl, rfl, (by decide)⟩, trivial⟩ (by cases s6 <;> rfl)) rfl ?_
 refine ya (ac_alloc Tryz.zeroValue50 rfl) rfl ?_
 rintro v L' ⟨b3, rfl, rfl⟩
 refine ya0 (ac_storeAll rfl rfl (by intro u hu; simp only [List.mem_cons, List.not_mem_nil, or_false] at hu; rcases hu with rfl | rfl | rfl | rfl | rfl | rfl | rfl <;> first | exact svVal_one _ _ | rfl) Tryz.sizeOf50 zrp rfl rfl) ?_
 rintro v L' ⟨rfl, rfl⟩
 refine ynil' (kthn (hK2 _ _ ?_))
 clear hK2
 refine cseq ?_; intro K3 hK3
 refine cseq ?_; intro K4 hK4
 refine creg ?_
 refine ymv ?_
 refine ynil' (kthn (hK4 _ _ ?_))
 clear hK4
 have hJ1 : ∀ x : Nat, ((x ≤ 4) ∧ (x = 4)) → Sk 21 K3 ([(10, i64 x), (3, ptr b3), (2, ptr b2), (0, ptr A.p)]) ([sc b3 [svVal s6 C.all.length, i64 C.k.e, i64 C.k.s, i64 (if 0 < x then C.k.t.a else 0), i64 (if 1 < x then C.k.t.b else 0), i64 (if 2 < x then C.k.t.c else 0), i64 (if 3 < x then C.k.t.d else 0)] 50, sc b2 [.slice none 0 0, i64 0, i64 0, i64 0, i64 0, i64 0, i64 0] 50, svSeg s6 34 (entsV C.all), caP A C, enS A C] ++ R) := by
  rintro i ⟨hI1, hX1⟩
  refine hK3 _ _ ?_
  have hi := hI1
  subst hX1
  refine cseq ?_; intro K5 hK5
  refine creg ?_
  refine y (ev_loadN (u := [svVal s6 C.all.length, i64 C.k.e, i64 C.k.s, i64 C.k.t.a, i64 C.k.t.b, i64 C.k.t.c, i64 C.k.t.d]) rfl Tryz.isAgg50 Tryz.sizeOf50 zin rfl rfl) rfl ?_
  refine ya0 (ac_storeAll rfl rfl (by intro u hu; simp only [List.mem_cons, List.not_mem_nil, or_false] at hu; rcases hu with rfl | rfl | rfl | rfl | rfl | rfl | rfl <;> first | exact svVal_one _ _ | rfl) Tryz.sizeOf50 zrp rfl rfl) ?_
  rintro v L' ⟨rfl, rfl⟩
  refine ynil' (kthn (hK5 _ _ ?_))
  clear hK5
  refine cret ?_
  first
    | (exfalso; omega; done)
    | (refine kretc Tryz.results22 rfl Tryz.isAgg50 Tryz.sizeOf50 zin (rfl) (L1 := [svSeg s6 34 (entsV C.all), caP A C, enS A C] ++ R) zge ?_
       exact ⟨_, ⟨s6, rfl, ok6, rfl⟩, rfl⟩)
 clear hK3
 refine cblock ?_
 refine cloop (A := Nat) (fun x => [(10, i64 x), (3, ptr b3), (2, ptr b2), (0, ptr A.p)]) (fun x => [sc b3 [svVal s6 C.all.length, i64 C.k.e, i64 C.k.s, i64 (if 0 < x then C.k.t.a else 0), i64 (if 1 < x then C.k.t.b else 0), i64 (if 2 < x then C.k.t.c else 0), i64 (if 3 < x then C.k.t.d else 0)] 50, sc b2 [.slice none 0 0, i64 0, i64 0, i64 0, i64 0, i64 0, i64 0] 50, svSeg s6 34 (entsV C.all), caP A C, enS A C] ++ R) (fun x => x ≤ 4) (fun x => 4 - x) (0) ?_ zsub zge ?_
 · exact Nat.zero_le _
 rintro i hI1 KL1 hL1
 have hI1o := hI1
 have hi := hI1
 refine cseq ?_; intro K6 hK6
 refine creg ?_
 refine y (ev_lss rfl rfl) rfl ?_
 refine ynil' (kthn (hK6 _ _ ?_))
 clear hK6
 refine cseq ?_; intro K7 hK7
 refine ccond rfl (fun h104 => ?_) (fun h104 => ?_)
 ·(try simp only [sH] at h104)
  refine cskip' (kthn (hK7 _ _ ?_))
  clear hK7
  refine cseq ?_; intro K8 hK8
  refine cblock ?_
  refine cseq ?_; intro K9 hK9
  refine creg ?_
  refine ymv ?_
  refine yas ?_
  refine ynil' (kthn (hK9 _ _ ?_))
  clear hK9
  refine creg ?_
  have hi4 : i = 0 ∨ i = 1 ∨ i = 2 ∨ i = 3 := by omega
  refine ymv ?_
  refine ymv ?_
  refine ymv ?_
  refine ycall (kNumber) rfl Tryz.call18 ztk rfl ?_
  rintro v L' ⟨rfl, rfl⟩
  refine y (ev_fieldAddr 3 rfl Tryz.underlying50 rfl Tryz.sizeOf48) rfl ?_
  refine y (ev_ixAddrA rfl rfl Tryz.underlying48 Tryz.sizeOf2 (by omega) (by omega)) rfl ?_
  refine ya0 (ac_store (vs' := [svVal s6 C.all.length, i64 C.k.e, i64 C.k.s, i64 (if 0 < i + 1 then C.k.t.a else 0), i64 (if 1 < i + 1 then C.k.t.b else 0), i64 (if 2 < i + 1 then C.k.t.c else 0), i64 (if 3 < i + 1 then C.k.t.d else 0)]) rfl rfl rfl Tryz.sizeOf2 zrp (by rcases hi4 with rfl | rfl | rfl | rfl <;> rfl) (by rcases hi4 with rfl | rfl | rfl | rfl <;> rfl)) ?_
  rintro v L' ⟨rfl, rfl⟩
  refine ynil' (kbn (kthn (hK8 _ _ ?_)))
  clear hK8
  refine creg ?_
  refine y (ev_add rfl rfl) rfl ?_
  rw [show IntKind.i64.wrap ((i:Int) + 1) = ((i+1 : Nat) : Int) by rw [wr (by omega) (by omega)]; rfl]
  refine ymv ?_
  refine ynil' (kthn ?_)
  exact hL1 (i + 1) (by omega) (by omega) _ _ zsub zge
 ·(try simp only [sH] at h104)
  refine cexit (kthx (kthx (kbx (kthn ?_))))
  exact ksub zsub zge (hJ1 i ⟨hI1o, by first | trivial | omega⟩)
theorem kept_ext {a b : KeptM} : a = b ↔ (a.e = b.e ∧ a.s = b.s) ∧ (a.t.a = b.t.a ∧ a.t.b = b.t.b ∧ a.t.c = b.t.c ∧ a.t.d = b.t.d) := by
 constructor
 · rintro rfl; exact ⟨⟨rfl, rfl⟩, rfl, rfl, rfl, rfl⟩
 · obtain ⟨a1, a2, a3, a4, a5, a6⟩ := a
   obtain ⟨b1, b2, b3, b4, b5, b6⟩ := b
   rintro ⟨⟨h1, h2⟩, h3, h4, h5, h6⟩
   dsimp only at *
   subst h1; subst h2; subst h3; subst h4; subst h5; subst h6; rfl
theorem nAlike [Env] {R : List Seg} {v1 v2 : Value} {u1 u2 : List EntM} {k1 k2 : KeptM} (h1 : RdV R v1 u1.length (entsV u1)) (h2 : RdV R v2 u2.length (entsV u2)) (hl : u1.length ≤ 1000) (hl2 : u2.length ≤ 1000) :
   Con Tryz.prog 21 [toldA v1 k1, toldA v2 k2] [] R (Is (.bool (decide (u1 = u2 ∧ k1 = k2))) []) := by
 refine con_enter Tryz.func21 Tryz.ntmps21 rfl rfl ?_
 refine cseq ?_; intro K1 hK1
 refine creg ?_
 refine ya (ac_box (vs := [v1, i64 k1.e, i64 k1.s, i64 k1.t.a, i64 k1.t.b, i64 k1.t.c, i64 k1.t.d]) rfl rfl) rfl ?_
 rintro v L' ⟨b2, rfl, rfl⟩
 refine ya (ac_box (vs := [v2, i64 k2.e, i64 k2.s, i64 k2.t.a, i64 k2.t.b, i64 k2.t.c, i64 k2.t.d]) rfl rfl) rfl ?_
 rintro v L' ⟨b3, rfl, rfl⟩
 refine yas ?_
 refine ynil' (kthn (hK1 _ _ ?_))
 clear hK1
 refine cseq ?_; intro K2 hK2
 refine creg ?_
 refine y (ev_fieldAddr 0 rfl Tryz.underlying50 rfl Tryz.sizeOf41) rfl ?_
 refine y (ev_load rfl Tryz.isAgg41 zin rfl) rfl ?_
 refine y (ev_fieldAddr 0 rfl Tryz.underlying50 rfl Tryz.sizeOf41) rfl ?_
 refine y (ev_load rfl Tryz.isAgg41 zin rfl) rfl ?_
 refine ycall (nSame9 (u1 := u1) (u2 := u2) ?ia123 ?ib123 ?ic123 ?id123) rfl Tryz.call28 ztk rfl ?_
 case ia123 => exact h1.mono zge
 case ib123 => exact h2.mono zge
 case ic123 => exact hl
 case id123 => exact hl2
 rintro v L' ⟨rfl, rfl⟩
 refine ymv ?_
 refine ysplit 10 rfl (fun h125 => ?_) (fun h125 => ?_)
 ·(try simp only [sH] at h125)
  refine ygo ?_
  refine y (ev_fieldAddr 1 rfl Tryz.underlying50 rfl Tryz.sizeOf31) rfl ?_
  refine ygo ?_
  refine y (ev_loadN (u := [i64 k1.e, i64 k1.s]) rfl Tryz.isAgg31 Tryz.sizeOf31 zin rfl rfl) rfl ?_
  refine ygo ?_
  refine y (ev_fieldAddr 1 rfl Tryz.underlying50 rfl Tryz.sizeOf31) rfl ?_
  refine ygo ?_
  refine y (ev_loadN (u := [i64 k2.e, i64 k2.s]) rfl Tryz.isAgg31 Tryz.sizeOf31 zin rfl rfl) rfl ?_
  refine ygo ?_
  refine y (ev_eqlF rfl rfl (by kernel_rfl) (by simp only [List.cons.injEq, Value.int.injEq, Value.string.injEq, Value.bool.injEq, str_inj, intsV_inj, MsgM.cells_inj, true_and, and_true]; exact Iff.rfl)) rfl ?_
  refine ypa ?_
  refine ymv ?_
  refine ysplit 17 rfl (fun h133 => ?_) (fun h133 => ?_)
  ·(try simp only [sH] at h133)
   refine ygo ?_
   refine y (ev_fieldAddr 3 rfl Tryz.underlying50 rfl Tryz.sizeOf48) rfl ?_
   refine ygo ?_
   refine y (ev_loadN (u := [i64 k1.t.a, i64 k1.t.b, i64 k1.t.c, i64 k1.t.d]) rfl Tryz.isAgg48 Tryz.sizeOf48 zin rfl rfl) rfl ?_
   refine ygo ?_
   refine y (ev_fieldAddr 3 rfl Tryz.underlying50 rfl Tryz.sizeOf48) rfl ?_
   refine ygo ?_
   refine y (ev_loadN (u := [i64 k2.t.a, i64 k2.t.b, i64 k2.t.c, i64 k2.t.d]) rfl Tryz.isAgg48 Tryz.sizeOf48 zin rfl rfl) rfl ?_
   refine ygo ?_
   refine y (ev_eqlF rfl rfl (by kernel_rfl) (by simp only [List.cons.injEq, Value.int.injEq, Value.string.injEq, Value.bool.injEq, str_inj, intsV_inj, MsgM.cells_inj, true_and, and_true]; exact Iff.rfl)) rfl ?_
   refine ypa ?_
   refine yas ?_
   refine ynil' (kthn (hK2 _ _ ?_))
   clear hK2
   refine cret ?_
   first
     | (exfalso; omega; done)
     | (refine kretv Tryz.results21 rfl (L1 := [] ++ R) zge ?_
        exact ⟨_, ⟨by first | rfl | (rw [kept_ext]; simp [*]; done) | (simp only [kept_ext]; simp_all; done), rfl⟩, by first | rfl | (rw [kept_ext]; simp [*]; done) | (simp only [kept_ext]; simp_all; done)⟩)
  ·(try simp only [sH] at h133)
   refine ygz ?_
   refine ygz ?_
   refine ygz ?_
   refine ygz ?_
   refine ygz ?_
   refine ypb ?_
   refine yas ?_
   refine ynil' (kthn (hK2 _ _ ?_))
   clear hK2
   refine cret ?_
   first
     | (exfalso; omega; done)
     | (refine kretv Tryz.results21 rfl (L1 := [] ++ R) zge ?_
        exact ⟨_, ⟨by first | rfl | (rw [kept_ext]; simp [*]; done) | (simp only [kept_ext]; simp_all; done), rfl⟩, by first | rfl | (rw [kept_ext]; simp [*]; done) | (simp only [kept_ext]; simp_all; done)⟩)
 ·(try simp only [sH] at h125)
  refine ygz ?_
  refine ygz ?_
  refine ygz ?_
  refine ygz ?_
  refine ygz ?_
  refine ypb ?_
  refine ymv ?_
  refine ygz ?_
  refine ygz ?_
  refine ygz ?_
  refine ygz ?_
  refine ygz ?_
  refine ypb ?_
  refine yas ?_
  refine ynil' (kthn (hK2 _ _ ?_))
  clear hK2
  refine cret ?_
  first
    | (exfalso; omega; done)
    | (refine kretv Tryz.results21 rfl (L1 := [] ++ R) zge ?_
       exact ⟨_, ⟨by first | rfl | (rw [kept_ext]; simp [*]; done) | (simp only [kept_ext]; simp_all; done), rfl⟩, by first | rfl | (rw [kept_ext]; simp [*]; done) | (simp only [kept_ext]; simp_all; done)⟩)
end W
end Go.Proofs
