/- A part of the proof: contracts and plain lemmas, each without conditions beyond those that it names. -/
import Derived.Test.YtediodfmkbfomaaGreatC13
import Derived.Test.YtediodfmkbfomaaGreatGO
set_option linter.unusedVariables false
set_option linter.unusedSimpArgs false
set_option linter.constructorNameAsVariable false
namespace Go.Proofs
open Go Go.Sl
namespace W
set_option linter.unusedVariables false
theorem kOpenY [Env] {R : List Seg} {q : Q3} {D D' : Dev} {first n a b bl : Int} {C : CaM} (hD : D.ok) (ha : a ≤ 9223372036854775807) (hb : b ≤ 9223372036854775807) (h : caOpen D first n a b bl = (0, C, D')) :
   Con Tryz.prog 20 [dp q, i64 first, i64 n, i64 a, i64 b, i64 bl] [dev q D] R (fun u L' => ∃ A sl, u = .tuple #[ptr A.p, i64 0] ∧ itOk sl C.l ∧ L' = [caP A C, enS A C, puS A C, lgS A q sl C, dev q D']) := by
 have hop := kOpen (R := R) (q := q) (first := first) (n := n) (bl := bl) hD ha hb
 rw [h] at hop
 refine hop.mono ?_
 rintro v L (⟨h1, _⟩ | ⟨_, A, sl, rfl, h2, rfl⟩)
 · exact absurd rfl h1
 · exact ⟨A, sl, rfl, h2, rfl⟩
theorem kOpenN [Env] {R : List Seg} {q : Q3} {D : Dev} {first n a b bl : Int} (hD : D.ok) (ha : a ≤ 9223372036854775807) (hb : b ≤ 9223372036854775807) (h : n < 8) :
   Con Tryz.prog 20 [dp q, i64 first, i64 n, i64 a, i64 b, i64 bl] [dev q D] R (Is (.tuple #[nilP, i64 1]) [dev q D]) := by
 have hop := kOpen (R := R) (q := q) (first := first) (n := n) (bl := bl) hD ha hb
 have e : (caOpen D first n a b bl).1 = 1 ∧ (caOpen D first n a b bl).2.2 = D := by unfold caOpen; rw [if_pos (.inr (.inr h))]; exact ⟨rfl, rfl⟩
 refine hop.mono ?_
 rintro v L (⟨_, rfl, rfl⟩ | ⟨h1, _⟩)
 · rw [e.1, e.2]; exact ⟨rfl, rfl⟩
 · rw [e.1] at h1; cases h1
def nCa (r : Int) : Nat := (r % 30).toNat + 8
theorem nCa_le (r : Int) : 8 ≤ nCa r ∧ nCa r ≤ 37 := by unfold nCa; omega
theorem nCa_eq {r : Int} (h0 : 0 ≤ r) (h1 : r ≤ 255) : IntKind.i64.wrap (IntKind.i64.wrap (r.tmod 30) + 8) = nCa r := by
 have e : r.tmod 30 = r % 30 := Int.tmod_eq_emod_of_nonneg h0
 rw [e]
 have h2 := Int.emod_nonneg r (show (30 : Int) ≠ 0 by decide)
 have h3 := Int.emod_lt_of_pos r (show (0 : Int) < 30 by decide)
 rw [show IntKind.i64.wrap (r % 30) = r % 30 from wr (by omega) (by omega), wr (by omega) (by omega)]
 unfold nCa; omega
theorem nDo [Env] {R : List Seg} {A : CaA} {q : Q3} {sl : Sv} {C : CaM} {D : Dev} {a : ActC} (hC : C.ok D) (hs : itOk sl C.l) (hak : a.ok R) (hal : a.ts.length ≤ 100) :
   Con Tryz.prog 25 [ptr A.p, .agg a.cells.toArray] [caP A C, enS A C, puS A C, lgS A q sl C, dev q D] R (KC A q C (doM C D a.kind a.x a.ts)) := by
 refine con_enter Tryz.func25 Tryz.ntmps25 rfl rfl ?_
 refine cseq ?_; intro K1 hK1
 refine creg ?_
 refine ya (ac_box (vs := a.cells) rfl rfl) rfl ?_
 rintro v L' ⟨b3, rfl, rfl⟩
 refine yas ?_
 refine ynil' (kthn (hK1 _ _ ?_))
 clear hK1
 refine cseq ?_; intro K2 hK2
 refine cseq ?_; intro K3 hK3
 refine creg ?_
 refine y (ev_fieldAddr 0 rfl Tryz.underlying59 rfl Tryz.sizeOf3) rfl ?_
 refine y (ev_load rfl Tryz.isAgg3 zin rfl) rfl ?_
 refine ynil' (kthn (hK3 _ _ ?_))
 clear hK3
 refine cblock ?_
 refine cseq ?_; intro K4 hK4
 refine creg ?_
 refine y (ev_eql rfl rfl) rfl ?_
 refine yas ?_
 refine ynil' (kthn (hK4 _ _ ?_))
 clear hK4
 refine ccond rfl (fun h33 => ?_) (fun h33 => ?_)
 ·(try simp only [sH] at h33)
  refine cseq ?_; intro K5 hK5
  refine creg ?_
  refine ymv ?_
  refine y (ev_fieldAddr 2 rfl Tryz.underlying59 rfl Tryz.sizeOf34) rfl ?_
  refine y (ev_loadN (u := [i64 a.x.blk, i64 a.x.ve, i64 a.x.vs, str a.x.data, .bool a.x.dirty, i64 a.x.cl, i64 a.x.n]) rfl Tryz.isAgg34 Tryz.sizeOf34 zin rfl rfl) rfl ?_
  refine ycall (kPut (C := C) (sl := sl) (q := q) (D := D) (x := a.x) ?cok37 ?its37) rfl Tryz.call13 ztk rfl ?_
  case cok37 => exact hC
  case its37 => exact hs
  rintro v L' ⟨sl12, rfl, ok12, rfl⟩
  refine yas ?_
  refine ynil' (kthn (hK5 _ _ ?_))
  clear hK5
  refine cret (kbr (kthr ?_))
  first
    | (exfalso; omega; done)
    | (refine kretv Tryz.results25 rfl (L1 := [caP A _, enS A _, puS A _, lgS A q sl12 _, dev q _] ++ R) zge ?_
       have e : doM C D a.kind a.x a.ts = C.put D a.x := by unfold doM; rw [if_pos (by omega)]
       rw [e]; exact ⟨_, ⟨sl12, rfl, ok12, rfl⟩, rfl⟩)
 ·(try simp only [sH] at h33)
  refine cseq ?_; intro K6 hK6
  refine creg ?_
  refine y (ev_eql rfl rfl) rfl ?_
  refine yas ?_
  refine ynil' (kthn (hK6 _ _ ?_))
  clear hK6
  refine ccond rfl (fun h41 => ?_) (fun h41 => ?_)
  ·(try simp only [sH] at h41)
   refine cseq ?_; intro K7 hK7
   refine creg ?_
   refine ymv ?_
   refine y (ev_fieldAddr 2 rfl Tryz.underlying59 rfl Tryz.sizeOf34) rfl ?_
   refine y (ev_fieldAddr 0 rfl Tryz.underlying34 rfl Tryz.sizeOf3) rfl ?_
   refine y (ev_load rfl Tryz.isAgg3 zin rfl) rfl ?_
   refine y (ev_fieldAddr 2 rfl Tryz.underlying59 rfl Tryz.sizeOf34) rfl ?_
   refine y (ev_fieldAddr 1 rfl Tryz.underlying34 rfl Tryz.sizeOf31) rfl ?_
   refine y (ev_loadN (u := [i64 a.x.ve, i64 a.x.vs]) rfl Tryz.isAgg31 Tryz.sizeOf31 zin rfl rfl) rfl ?_
   refine ycall (kClean (C := C) (sl := sl) (q := q) (D := D) ?cok49 ?its49) rfl Tryz.call16 ztk rfl ?_
   case cok49 => exact hC
   case its49 => exact hs
   rintro v L' ⟨sl22, rfl, ok22, rfl⟩
   refine yas ?_
   refine ynil' (kthn (hK7 _ _ ?_))
   clear hK7
   refine cret (kbr (kthr ?_))
   first
     | (exfalso; omega; done)
     | (refine kretv Tryz.results25 rfl (L1 := [caP A _, enS A _, puS A _, lgS A q sl22 _, dev q _] ++ R) zge ?_
        have e : doM C D a.kind a.x a.ts = C.clean D a.x.blk a.x.ve a.x.vs := by unfold doM; rw [if_neg (by omega), if_pos (by omega)]
        rw [e]; exact ⟨_, ⟨sl22, rfl, ok22, rfl⟩, rfl⟩)
  ·(try simp only [sH] at h41)
   refine cseq ?_; intro K8 hK8
   refine creg ?_
   refine y (ev_eql rfl rfl) rfl ?_
   refine yas ?_
   refine ynil' (kthn (hK8 _ _ ?_))
   clear hK8
   refine ccond rfl (fun h53 => ?_) (fun h53 => ?_)
   ·(try simp only [sH] at h53)
    refine cseq ?_; intro K9 hK9
    refine creg ?_
    refine ymv ?_
    refine y (ev_fieldAddr 2 rfl Tryz.underlying59 rfl Tryz.sizeOf34) rfl ?_
    refine y (ev_fieldAddr 0 rfl Tryz.underlying34 rfl Tryz.sizeOf3) rfl ?_
    refine y (ev_load rfl Tryz.isAgg3 zin rfl) rfl ?_
    refine ycall (kDrop (C := C) (sl := sl) (q := q) (D := D) ?cok58 ?its58) rfl Tryz.call37 ztk rfl ?_
    case cok58 => exact hC
    case its58 => exact hs
    rintro v L' ⟨sl29, rfl, ok29, rfl⟩
    refine yas ?_
    refine ynil' (kthn (hK9 _ _ ?_))
    clear hK9
    refine cret (kbr (kthr ?_))
    first
      | (exfalso; omega; done)
      | (refine kretv Tryz.results25 rfl (L1 := [caP A _, enS A _, puS A _, lgS A q sl29 _, dev q _] ++ R) zge ?_
         have e : doM C D a.kind a.x a.ts = C.drop D a.x.blk := by unfold doM; rw [if_neg (by omega), if_neg (by omega), if_pos (by omega)]
         rw [e]; exact ⟨_, ⟨sl29, rfl, ok29, rfl⟩, rfl⟩)
   ·(try simp only [sH] at h53)
    refine cseq ?_; intro K10 hK10
    refine creg ?_
    refine y (ev_eql rfl rfl) rfl ?_
    refine yas ?_
    refine ynil' (kthn (hK10 _ _ ?_))
    clear hK10
    refine ccond rfl (fun h62 => ?_) (fun h62 => ?_)
    ·(try simp only [sH] at h62)
     refine cseq ?_; intro K11 hK11
     refine creg ?_
     refine ymv ?_
     refine y (ev_fieldAddr 2 rfl Tryz.underlying59 rfl Tryz.sizeOf34) rfl ?_
     refine y (ev_fieldAddr 1 rfl Tryz.underlying34 rfl Tryz.sizeOf31) rfl ?_
     refine y (ev_loadN (u := [i64 a.x.ve, i64 a.x.vs]) rfl Tryz.isAgg31 Tryz.sizeOf31 zin rfl rfl) rfl ?_
     refine y (ev_fieldAddr 9 rfl Tryz.underlying59 rfl Tryz.sizeOf56) rfl ?_
     refine y (ev_load rfl Tryz.isAgg56 zin rfl) rfl ?_
     refine ycall (kNote (C := C) (sl := sl) (q := q) (D := D) (ns := a.ts) ?cok69 ?its69 ?hv69 ?hl69) rfl Tryz.call29 ztk rfl ?_
     case cok69 => exact hC
     case its69 => exact hs
     case hv69 => exact hak.nums.mono zge
     case hl69 => omega
     rintro v L' ⟨sl38, rfl, ok38, rfl⟩
     refine yas ?_
     refine ynil' (kthn (hK11 _ _ ?_))
     clear hK11
     refine cret (kbr (kthr ?_))
     first
       | (exfalso; omega; done)
       | (refine kretv Tryz.results25 rfl (L1 := [caP A _, enS A _, puS A _, lgS A q sl38 _, dev q _] ++ R) zge ?_
          have e : doM C D a.kind a.x a.ts = C.note D a.x.ve a.x.vs a.ts := by unfold doM; rw [if_neg (by omega), if_neg (by omega), if_neg (by omega), if_pos (by omega)]
          rw [e]; exact ⟨_, ⟨sl38, rfl, ok38, rfl⟩, rfl⟩)
    ·(try simp only [sH] at h62)
     refine cseq ?_; intro K12 hK12
     refine creg ?_
     refine y (ev_eql rfl rfl) rfl ?_
     refine yas ?_
     refine ynil' (kthn (hK12 _ _ ?_))
     clear hK12
     refine ccond rfl (fun h73 => ?_) (fun h73 => ?_)
     ·(try simp only [sH] at h73)
      refine cseq ?_; intro K13 hK13
      refine creg ?_
      refine ymv ?_
      refine y (ev_fieldAddr 2 rfl Tryz.underlying59 rfl Tryz.sizeOf34) rfl ?_
      refine y (ev_fieldAddr 1 rfl Tryz.underlying34 rfl Tryz.sizeOf31) rfl ?_
      refine y (ev_loadN (u := [i64 a.x.ve, i64 a.x.vs]) rfl Tryz.isAgg31 Tryz.sizeOf31 zin rfl rfl) rfl ?_
      refine y (ev_fieldAddr 9 rfl Tryz.underlying59 rfl Tryz.sizeOf56) rfl ?_
      refine y (ev_load rfl Tryz.isAgg56 zin rfl) rfl ?_
      refine ycall (kReset (C := C) (sl := sl) (q := q) (D := D) (ns := a.ts) ?cok80 ?its80 ?hv80 ?hl80) rfl Tryz.call27 ztk rfl ?_
      case cok80 => exact hC
      case its80 => exact hs
      case hv80 => exact hak.nums.mono zge
      case hl80 => omega
      rintro v L' ⟨sl47, rfl, ok47, rfl⟩
      refine yas ?_
      refine ynil' (kthn (hK13 _ _ ?_))
      clear hK13
      refine cret (kbr (kthr ?_))
      first
        | (exfalso; omega; done)
        | (refine kretv Tryz.results25 rfl (L1 := [caP A _, enS A _, puS A _, lgS A q sl47 _, dev q _] ++ R) zge ?_
           have e : doM C D a.kind a.x a.ts = C.reset D a.x.ve a.x.vs a.ts := by unfold doM; rw [if_neg (by omega), if_neg (by omega), if_neg (by omega), if_neg (by omega), if_pos (by omega)]
           rw [e]; exact ⟨_, ⟨sl47, rfl, ok47, rfl⟩, rfl⟩)
     ·(try simp only [sH] at h73)
      refine cseq ?_; intro K14 hK14
      refine creg ?_
      refine y (ev_eql rfl rfl) rfl ?_
      refine yas ?_
      refine ynil' (kthn (hK14 _ _ ?_))
      clear hK14
      refine ccond rfl (fun h84 => ?_) (fun h84 => ?_)
      ·(try simp only [sH] at h84)
       refine cseq ?_; intro K15 hK15
       refine creg ?_
       refine ymv ?_
       refine ycall (kSync (A := A) (C := C) (sl := sl) (q := q) (D := D) ?dok86) rfl Tryz.call36 ztk rfl ?_
       case dok86 => exact hC.d
       rintro v L' ⟨rfl, rfl⟩
       refine yas ?_
       refine ynil' (kthn (hK15 _ _ ?_))
       clear hK15
       refine cret (kbr (kthr ?_))
       first
         | (exfalso; omega; done)
         | (refine kretv Tryz.results25 rfl (L1 := [caP A C, enS A C, puS A C, lgS A q sl C, dev q D.barrier.2] ++ R) zge ?_
            have e : doM C D a.kind a.x a.ts = C.sync D := by unfold doM; rw [if_neg (by omega), if_neg (by omega), if_neg (by omega), if_neg (by omega), if_neg (by omega), if_pos (by omega)]
            rw [e]; exact ⟨_, ⟨sl, rfl, hs, rfl⟩, rfl⟩)
      ·(try simp only [sH] at h84)
       refine cskip' (kbn (kthn (hK2 _ _ ?_)))
       clear hK2
       refine cseq ?_; intro K16 hK16
       refine creg ?_
       refine yas ?_
       refine ynil' (kthn (hK16 _ _ ?_))
       clear hK16
       refine cret ?_
       first
         | (exfalso; omega; done)
         | (refine kretv Tryz.results25 rfl (L1 := [caP A C, enS A C, puS A C, lgS A q sl C, dev q D] ++ R) zge ?_
            have e : doM C D a.kind a.x a.ts = (0, C, D) := by unfold doM; rw [if_neg (by omega), if_neg (by omega), if_neg (by omega), if_neg (by omega), if_neg (by omega), if_neg (by omega)]
            rw [e]; exact ⟨_, ⟨sl, rfl, hs, rfl⟩, rfl⟩)
theorem nAwPut [Env] {R : List Seg} {A : CaA} {q : Q3} {sl : Sv} {C : CaM} {D : Dev} {bc : Nat} {b s : Int} {d : Bool} (hC : C.ok D) (hs : itOk sl C.l) :
   Con Tryz.prog 35 ([i64 b, i64 s, .bool d] ++ [ptr bc]) [sc bc [ptr A.p] 26, caP A C, enS A C, puS A C, lgS A q sl C, dev q D] R
     (fun u L' => ∃ sl', u = i64 (C.put D (aw b s d)).1 ∧ itOk sl' (C.put D (aw b s d)).2.1.l ∧ L' = [sc bc [ptr A.p] 26, caP A (C.put D (aw b s d)).2.1, enS A (C.put D (aw b s d)).2.1, puS A (C.put D (aw b s d)).2.1, lgS A q sl' (C.put D (aw b s d)).2.1, dev q (C.put D (aw b s d)).2.2]) := by
 refine con_enter Tryz.func35 Tryz.ntmps35 rfl rfl ?_
 refine cseq ?_; intro K1 hK1
 refine creg ?_
 refine yas ?_
 refine ynil' (kthn (hK1 _ _ ?_))
 clear hK1
 refine cseq ?_; intro K2 hK2
 refine creg ?_
 refine y (ev_load rfl Tryz.isAgg26 zin rfl) rfl ?_
 refine ymv ?_
 refine ymv ?_
 refine y (ev_build (zs := _) rfl Tryz.underlying31 Tryz.zeroValue31 rfl (.cons Tryz.sizeOf2 (.cons Tryz.sizeOf2 .nil)) ⟨⟨_, _, rfl, (by first | rfl | simp), (by first | decide | simp)⟩, ⟨⟨_, _, rfl, (by first | rfl | simp), (by first | decide | simp)⟩, trivial⟩⟩ (by dsimp [fillL, splice, vcells] <;> rfl)) rfl ?_
 refine ymv ?_
 refine ymv ?_
 refine y (ev_build (zs := _) rfl Tryz.underlying34 Tryz.zeroValue34 rfl (.cons Tryz.sizeOf3 (.cons Tryz.sizeOf31 (.cons Tryz.sizeOf9 (.cons Tryz.sizeOf4 (.cons Tryz.sizeOf3 (.cons Tryz.sizeOf2 .nil)))))) ⟨⟨_, _, rfl, (by first | rfl | simp), (by first | decide | simp)⟩, ⟨⟨_, _, rfl, (by first | rfl | simp), (by first | decide | simp)⟩, ⟨⟨_, _, rfl, (by first | rfl | simp), (by first | decide | simp)⟩, ⟨⟨_, _, rfl, (by first | rfl | simp), (by first | decide | simp)⟩, ⟨⟨_, _, rfl, (by first | rfl | simp), (by first | decide | simp)⟩, ⟨⟨_, _, rfl, (by first | rfl | simp), (by first | decide | simp)⟩, trivial⟩⟩⟩⟩⟩⟩ (by dsimp [fillL, splice, vcells] <;> rfl)) rfl ?_
 refine ycall (kPut (C := C) (sl := sl) (q := q) (D := D) (x := aw b s d) ?cok97 ?its97) rfl Tryz.call13 ztk rfl ?_
 case cok97 => exact hC
 case its97 => exact hs
 rintro v L' ⟨sl15, rfl, ok15, rfl⟩
 refine yas ?_
 refine ynil' (kthn (hK2 _ _ ?_))
 clear hK2
 refine cret ?_
 first
   | (exfalso; omega; done)
   | (refine kretv Tryz.results35 rfl (L1 := [sc bc [ptr A.p] 26, caP A _, enS A _, puS A _, lgS A q sl15 _, dev q _] ++ R) zge ?_
      exact ⟨_, ⟨sl15, rfl, ok15, rfl⟩, rfl⟩)
end W
end Go.Proofs
