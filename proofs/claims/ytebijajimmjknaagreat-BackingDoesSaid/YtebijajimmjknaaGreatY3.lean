/- A part of the proof: contracts and plain lemmas, each without conditions beyond those that it names. -/
import Derived.Test.YtebijajimmjknaaGreatY2
import Derived.Test.YtebijajimmjknaaGreatT20
import Derived.Test.YtebijajimmjknaaGreatCelH
import Derived.Test.YtebijajimmjknaaGreatGC
set_option linter.unusedVariables false
set_option linter.unusedSimpArgs false
set_option linter.constructorNameAsVariable false
namespace Go.Proofs
open Go Go.Sl
namespace W
set_option linter.unusedVariables false
theorem refWriteB [Env] {R : List Seg} {p la : Nat} {D : RDev} {i : Int} {bv : Value} {bs : Bytes} (hD : D.ok) (hb : RdB R bv bs) :
   Con Tryz.prog 21 [ptr p, i64 i, bv] [rP p la D, rL la D] R (Is (i64 (D.write i bs).1) [rP p la (D.write i bs).2, rL la (D.write i bs).2]) := by
 intro w hh
 exact refWriteV hD (rdV_of_rdB hb ((show Ge ([rP p la D, rL la D] ++ R) R from .drop (.drop .refl)).has hh)) w hh
/-- The document's device in one piece. -/
def rdev (p la : Nat) (D : RDev) : Seg := rP p la D ++ rL la D
theorem rd_in {p la : Nat} {D : RDev} {R : List Seg} : ([rdev p la D] ++ R).flatten.Perm ([rP p la D, rL la D] ++ R).flatten := by simp [rdev]
theorem rdNew [Env] {R : List Seg} {n : Nat} (hn : n ≤ 512) : Con Tryz.prog 7 [i64 n] [] R (fun v L' => ∃ p la, v = ptr p ∧ L' = [rdev p la (RDev.new n)]) :=
 (refNew hn).via (List.Perm.refl _) (fun _ _ ⟨p, la, h1, h2⟩ => ⟨_, ⟨p, la, h1, rfl⟩, h2 ▸ rd_in.symm⟩)
theorem rdWrite [Env] {R : List Seg} {p la : Nat} {D : RDev} {i : Int} {bv : Value} {bs : Bytes} (hD : D.ok) (hb : RdB R bv bs) :
   Con Tryz.prog 21 [ptr p, i64 i, bv] [rdev p la D] R (Is (i64 (D.write i bs).1) [rdev p la (D.write i bs).2]) :=
 (refWriteB hD hb).via rd_in (fun _ _ ⟨h1, h2⟩ => ⟨_, ⟨h1, rfl⟩, h2 ▸ rd_in.symm⟩)
theorem rdBarrier [Env] {R : List Seg} {p la : Nat} {D : RDev} (hD : D.ok) : Con Tryz.prog 93 [ptr p] [rdev p la D] R (Is (i64 D.barrier.1) [rdev p la D.barrier.2]) :=
 (refBarrier hD).via rd_in (fun _ _ ⟨h1, h2⟩ => ⟨_, ⟨h1, rfl⟩, h2 ▸ rd_in.symm⟩)
theorem rdFuse [Env] {R : List Seg} {p la : Nat} {D : RDev} {i : Int} : Con Tryz.prog 19 [ptr p, i64 i] [rdev p la D] R (Is (.tuple #[]) [rdev p la (D.setFuse i)]) :=
 (refSetFuse (R := rL la D :: R)).via rd_in (fun _ _ ⟨h1, h2⟩ => ⟨_, ⟨h1, rfl⟩, h2 ▸ (by rw [show rL la D = rL la (D.setFuse i) from rfl]; exact rd_in.symm)⟩)
theorem rdCrash [Env] {R : List Seg} {p la : Nat} {D : RDev} {kv : Value} {ks : Keeps} (hD : D.ok) (hk : RdV R kv ks.length (keepsV ks)) : Con Tryz.prog 16 [ptr p, kv] [rdev p la D] R (Is (.tuple #[]) [rdev p la (D.crash ks)]) :=
 (refCrash hD hk).via rd_in (fun _ _ ⟨h1, h2⟩ => ⟨_, ⟨h1, rfl⟩, h2 ▸ rd_in.symm⟩)
theorem rdRead [Env] {R : List Seg} {p la : Nat} {D : RDev} {i : Int} (hD : D.ok) : Con Tryz.prog 27 [ptr p, i64 i] [rdev p la D] R (KRRead D i [rdev p la D]) := by
 refine (refRead hD).via rd_in ?_
 rintro v L (⟨h1, h2, rfl⟩ | ⟨h1, s, h2, h3, rfl⟩)
 · exact ⟨_, .inl ⟨h1, h2, rfl⟩, rd_in.symm⟩
 · exact ⟨_, .inr ⟨h1, s, h2, h3, rfl⟩, by simp [rdev]⟩
theorem rdReadS [Env] {R : List Seg} {p la : Nat} {D : RDev} {i : Int} (hD : D.ok) (h0 : D.has i = 0) (hl : (D.sec i).length = 144) : Con Tryz.prog 27 [ptr p, i64 i] [rdev p la D] R
   (fun v L' => ∃ s, v = .tuple #[svVal s (D.sec i).length, i64 0] ∧ svOk s (D.sec i).length 1 (bytesV (D.sec i)) ∧ L' = [svSeg s 5 (bytesV (D.sec i)), rdev p la D]) := by
 refine (rdRead hD).mono ?_
 rintro v L (⟨h1, _⟩ | ⟨_, s, rfl, h2, rfl⟩)
 · exact absurd h0 h1
 · exact ⟨s, by rw [hl], by rw [hl]; exact h2, rfl⟩
def rcelP (c p : Nat) (C : CellM) : Seg := sc c [ptr p, i64 C.a, i64 C.b, i64 (C.now + 1), i64 C.gen, str C.text] 108
theorem rcPut [Env] {R : List Seg} {c p la : Nat} {C : CellM} {D : RDev} {s : Bytes} (hC : 0 ≤ C.gen ∧ C.gen ≤ 4611686018427387904) (hnow : C.now = -1 ∨ C.now = 0 ∨ C.now = 1) (hD : D.ok) (hok : ∀ i bs, (D.write i bs).2.ok) :
   Con Tryz.prog 71 [ptr c, str s] [rcelP c p C, rdev p la D] R (Is (i64 (C.putR D s).1) [rcelP c p (C.putR D s).2.1, rdev p la (C.putR D s).2.2]) := by
 refine con_enter Tryz.func71 Tryz.ntmps71 rfl rfl ?_
 unfold rcelP
 refine cseq ?_; intro K1 hK1
 refine creg ?_
 refine yas ?_
 refine ynil' (kthn (hK1 _ _ ?_))
 clear hK1
 refine cseq ?_; intro K2 hK2
 refine cseq ?_; intro K3 hK3
 refine creg ?_
 refine ymv ?_
 first
   | refine y (ev_lenStr rfl Tryz.underlying9) rfl ?_
   | refine y (ev_lenS rfl Tryz.underlying9) rfl ?_
 refine y (ev_gtr rfl rfl) rfl ?_
 refine ynil' (kthn (hK3 _ _ ?_))
 clear hK3
 refine ccond rfl (fun h5 => ?_) (fun h5 => ?_)
 ·(try simp only [sH] at h5)
  refine cseq ?_; intro K4 hK4
  refine creg ?_
  have hput : C.putR D s = (3, C, D) := by unfold CellM.putR; rw [if_pos (by omega)]
  refine yas ?_
  refine ynil' (kthn (hK4 _ _ ?_))
  clear hK4
  refine cret (kthr ?_)
  first
    | (exfalso; omega; done)
    | (refine kretv Tryz.results71 rfl (L1 := [sc c _ 108, rdev p la _] ++ R) zge ?_
       rw [hput]; first | exact ⟨_, ⟨rfl, rfl⟩, rfl⟩ | exact ⟨_, ⟨congrArg (fun x => i64 x) (by assumption), rfl⟩, rfl⟩)
 ·(try simp only [sH] at h5)
  refine cskip' (kthn (hK2 _ _ ?_))
  clear hK2
  refine cseq ?_; intro K5 hK5
  refine cseq ?_; intro K6 hK6
  refine creg ?_
  refine ymv ?_
  refine yni ?_
  refine y (ev_fieldAddr 4 rfl Tryz.underlying108 rfl Tryz.sizeOf2) rfl ?_
  refine y (ev_load rfl Tryz.isAgg2 zin rfl) rfl ?_
  refine y (ev_eql rfl rfl) rfl ?_
  refine ynil' (kthn (hK6 _ _ ?_))
  clear hK6
  refine ccond rfl (fun h12 => ?_) (fun h12 => ?_)
  ·(try simp only [sH] at h12)
   refine cseq ?_; intro K7 hK7
   refine creg ?_
   have hput : C.putR D s = (23, C, D) := by unfold CellM.putR; rw [if_neg (by omega), if_pos (by omega)]
   refine yas ?_
   refine ynil' (kthn (hK7 _ _ ?_))
   clear hK7
   refine cret (kthr ?_)
   first
     | (exfalso; omega; done)
     | (refine kretv Tryz.results71 rfl (L1 := [sc c _ 108, rdev p la _] ++ R) zge ?_
        rw [hput]; first | exact ⟨_, ⟨rfl, rfl⟩, rfl⟩ | exact ⟨_, ⟨congrArg (fun x => i64 x) (by assumption), rfl⟩, rfl⟩)
  ·(try simp only [sH] at h12)
   obtain ⟨w, hw⟩ : ∃ w, D.write C.other (slotM (IntKind.i64.wrap (C.gen + 1)) s) = w := ⟨_, rfl⟩
   have hput : C.putR D s = (if w.1 ≠ 0 then (w.1, C, w.2) else if w.2.barrier.1 ≠ 0 then (w.2.barrier.1, C, w.2.barrier.2) else (0, { C with now := if C.now = 0 then 1 else 0, gen := IntKind.i64.wrap (C.gen + 1), text := s }, w.2.barrier.2)) := by unfold CellM.putR; rw [if_neg (by omega), if_neg (by omega), hw]
   have hw1 : w.2.ok := by rw [← hw]; exact hok _ _
   refine cskip' (kthn (hK5 _ _ ?_))
   clear hK5
   refine cseq ?_; intro K8 hK8
   refine creg ?_
   refine yas ?_
   refine ynil' (kthn (hK8 _ _ ?_))
   clear hK8
   refine cseq ?_; intro K9 hK9
   refine creg ?_
   refine ymv ?_
   refine yni ?_
   refine y (ev_fieldAddr 1 rfl Tryz.underlying108 rfl Tryz.sizeOf3) rfl ?_
   refine y (ev_load rfl Tryz.isAgg3 zin rfl) rfl ?_
   refine yas ?_
   refine ynil' (kthn (hK9 _ _ ?_))
   clear hK9
   refine cseq ?_; intro K10 hK10
   have hJr10 : ∀ x : Unit, (True) → Sk 67 K10 ([(0, ptr c), (1, str s), (5, i64 ((if C.now = 0 then (1 : Int) else 0) + 1)), (6, i64 C.other)]) ([rcelP c p C, rdev p la D] ++ R) := by
    rintro x hIr10
    refine hK10 _ _ ?_
    unfold rcelP
    refine cseq ?_; intro K11 hK11
    refine cdraw 12 [(0, true), (1, true), (2, true), (3, true), (4, true), (5, true), (6, true), (7, true), (8, true), (9, true), (10, true), (11, false)] ([sc c _ 108] ++ R) Tryz.mixed (by kernel_rfl) zge ?_
    refine hr rfl (ev_move rfl) rfl ?_
    refine hr rfl (ev_nil rfl) rfl ?_
    refine hr rfl (ev_fieldAddr 0 rfl Tryz.underlying108 rfl Tryz.sizeOf26) rfl ?_
    refine hr rfl (ev_load rfl Tryz.isAgg26 zin rfl) rfl ?_
    refine hr rfl (ev_move rfl) rfl ?_
    refine hr rfl (ev_move rfl) rfl ?_
    refine hr rfl (ev_nil rfl) rfl ?_
    refine hr rfl (ev_fieldAddr 4 rfl Tryz.underlying108 rfl Tryz.sizeOf2) rfl ?_
    refine hr rfl (ev_load rfl Tryz.isAgg2 zin rfl) rfl ?_
    refine hr rfl (ev_add rfl rfl) rfl ?_
    refine hr rfl (ev_move rfl) rfl ?_
    refine hcall rfl (rSlot ?lo31 ?hi31) rfl Tryz.call92 ztk rfl ?_
    case lo31 => rw [wr (by omega) (by omega)]; omega
    case hi31 => rw [wr (by omega) (by omega)]; omega
    rintro v L' ⟨s40, rfl, ok40, rfl⟩; refine ⟨zge, ?_⟩
    refine hnil ?_
    refine ycall (rdWrite (bs := slotM (IntKind.i64.wrap (C.gen + 1)) s) ?ok32 ?rd32) rfl Tryz.call21 ztk rfl ?_
    case ok32 => exact hD
    case rd32 => exact rdB_sv zin ok40
    rintro v L' ⟨rfl, rfl⟩
    rw [hw]
    refine yas ?_
    refine hnoP' (kthn (hK11 _ _ ?_))
    clear hK11
    refine cseq ?_; intro K12 hK12
    refine cseq ?_; intro K13 hK13
    refine creg ?_
    refine ymv ?_
    refine y (ev_eql rfl rfl) rfl ?_
    refine ynil' (kthn (hK13 _ _ ?_))
    clear hK13
    refine ccond rfl (fun h36 => ?_) (fun h36 => ?_)
    ·(try simp only [sH] at h36)
     rw [if_neg (fun hc => hc h36)] at hput
     obtain ⟨bb, hbb⟩ : ∃ b, w.2.barrier = b := ⟨_, rfl⟩
     rw [hbb] at hput
     refine creg ?_
     refine ymv ?_
     refine yni ?_
     refine y (ev_fieldAddr 0 rfl Tryz.underlying108 rfl Tryz.sizeOf26) rfl ?_
     refine y (ev_load rfl Tryz.isAgg26 zin rfl) rfl ?_
     refine ycall (rdBarrier ?ok41) rfl Tryz.call93 ztk rfl ?_
     case ok41 => exact hw1
     rintro v L' ⟨rfl, rfl⟩
     rw [hbb]
     refine yas ?_
     refine ynil' (kthn (hK12 _ _ ?_))
     clear hK12
     refine cseq ?_; intro K14 hK14
     refine cseq ?_; intro K15 hK15
     refine creg ?_
     refine ymv ?_
     refine y (ev_eql rfl rfl) rfl ?_
     refine ynil' (kthn (hK15 _ _ ?_))
     clear hK15
     refine ccond rfl (fun h45 => ?_) (fun h45 => ?_)
     ·(try simp only [sH] at h45)
      try rw [if_neg (fun hc => hc h45)] at hput
      refine cseq ?_; intro K16 hK16
      refine creg ?_
      refine ymv ?_
      refine ymv ?_
      refine yni ?_
      refine y (ev_fieldAddr 3 rfl Tryz.underlying108 rfl Tryz.sizeOf3) rfl ?_
      refine ya0 (ac_store rfl rfl (by first | rfl | exact svVal_one _ _ | assumption) Tryz.sizeOf3 zrp rfl rfl) ?_
      rintro v L' ⟨rfl, rfl⟩
      refine ynil' (kthn (hK16 _ _ ?_))
      clear hK16
      refine cseq ?_; intro K17 hK17
      refine creg ?_
      refine ymv ?_
      refine yni ?_
      refine y (ev_fieldAddr 4 rfl Tryz.underlying108 rfl Tryz.sizeOf2) rfl ?_
      refine y (ev_load rfl Tryz.isAgg2 zin rfl) rfl ?_
      refine y (ev_add rfl rfl) rfl ?_
      refine yni ?_
      refine y (ev_fieldAddr 4 rfl Tryz.underlying108 rfl Tryz.sizeOf2) rfl ?_
      refine ya0 (ac_store rfl rfl (by first | rfl | exact svVal_one _ _ | assumption) Tryz.sizeOf2 zrp rfl rfl) ?_
      rintro v L' ⟨rfl, rfl⟩
      refine ynil' (kthn (hK17 _ _ ?_))
      clear hK17
      refine creg ?_
      refine ymv ?_
      refine ymv ?_
      refine yni ?_
      refine y (ev_fieldAddr 5 rfl Tryz.underlying108 rfl Tryz.sizeOf9) rfl ?_
      refine ya0 (ac_store rfl rfl (by first | rfl | exact svVal_one _ _ | assumption) Tryz.sizeOf9 zrp rfl rfl) ?_
      rintro v L' ⟨rfl, rfl⟩
      refine ynil' (kthn (hK14 _ _ ?_))
      clear hK14
      refine cseq ?_; intro K18 hK18
      refine creg ?_
      refine ymv ?_
      refine yas ?_
      refine ynil' (kthn (hK18 _ _ ?_))
      clear hK18
      refine cret ?_
      first
        | (exfalso; omega; done)
        | (refine kretv Tryz.results71 rfl (L1 := [sc c _ 108, rdev p la _] ++ R) zge ?_
           rw [hput]; first | exact ⟨_, ⟨rfl, rfl⟩, rfl⟩ | exact ⟨_, ⟨congrArg (fun x => i64 x) (by assumption), rfl⟩, rfl⟩)
     ·(try simp only [sH] at h45)
      try rw [if_pos h45] at hput
      refine cskip' (kthn (hK14 _ _ ?_))
      clear hK14
      refine cseq ?_; intro K19 hK19
      refine creg ?_
      refine ymv ?_
      refine yas ?_
      refine ynil' (kthn (hK19 _ _ ?_))
      clear hK19
      refine cret ?_
      first
        | (exfalso; omega; done)
        | (refine kretv Tryz.results71 rfl (L1 := [sc c _ 108, rdev p la _] ++ R) zge ?_
           rw [hput]; first | exact ⟨_, ⟨rfl, rfl⟩, rfl⟩ | exact ⟨_, ⟨congrArg (fun x => i64 x) (by assumption), rfl⟩, rfl⟩)
    ·(try simp only [sH] at h36)
     rw [if_pos h36] at hput
     refine cskip' (kthn (hK12 _ _ ?_))
     clear hK12
     refine cseq ?_; intro K20 hK20
     refine cseq ?_; intro K21 hK21
     refine creg ?_
     refine ymv ?_
     refine y (ev_eql rfl rfl) rfl ?_
     refine ynil' (kthn (hK21 _ _ ?_))
     clear hK21
     refine ccond rfl (fun h70 => ?_) (fun h70 => ?_)
     ·(try simp only [sH] at h70)
      try rw [if_neg (fun hc => hc h70)] at hput
      refine cseq ?_; intro K22 hK22
      refine creg ?_
      refine ymv ?_
      refine ymv ?_
      refine yni ?_
      refine y (ev_fieldAddr 3 rfl Tryz.underlying108 rfl Tryz.sizeOf3) rfl ?_
      refine ya0 (ac_store rfl rfl (by first | rfl | exact svVal_one _ _ | assumption) Tryz.sizeOf3 zrp rfl rfl) ?_
      rintro v L' ⟨rfl, rfl⟩
      refine ynil' (kthn (hK22 _ _ ?_))
      clear hK22
      refine cseq ?_; intro K23 hK23
      refine creg ?_
      refine ymv ?_
      refine yni ?_
      refine y (ev_fieldAddr 4 rfl Tryz.underlying108 rfl Tryz.sizeOf2) rfl ?_
      refine y (ev_load rfl Tryz.isAgg2 zin rfl) rfl ?_
      refine y (ev_add rfl rfl) rfl ?_
      refine yni ?_
      refine y (ev_fieldAddr 4 rfl Tryz.underlying108 rfl Tryz.sizeOf2) rfl ?_
      refine ya0 (ac_store rfl rfl (by first | rfl | exact svVal_one _ _ | assumption) Tryz.sizeOf2 zrp rfl rfl) ?_
      rintro v L' ⟨rfl, rfl⟩
      refine ynil' (kthn (hK23 _ _ ?_))
      clear hK23
      refine creg ?_
      refine ymv ?_
      refine ymv ?_
      refine yni ?_
      refine y (ev_fieldAddr 5 rfl Tryz.underlying108 rfl Tryz.sizeOf9) rfl ?_
      refine ya0 (ac_store rfl rfl (by first | rfl | exact svVal_one _ _ | assumption) Tryz.sizeOf9 zrp rfl rfl) ?_
      rintro v L' ⟨rfl, rfl⟩
      refine ynil' (kthn (hK20 _ _ ?_))
      clear hK20
      refine cseq ?_; intro K24 hK24
      refine creg ?_
      refine ymv ?_
      refine yas ?_
      refine ynil' (kthn (hK24 _ _ ?_))
      clear hK24
      refine cret ?_
      first
        | (exfalso; omega; done)
        | (refine kretv Tryz.results71 rfl (L1 := [sc c _ 108, rdev p la _] ++ R) zge ?_
           rw [hput]; first | exact ⟨_, ⟨rfl, rfl⟩, rfl⟩ | exact ⟨_, ⟨congrArg (fun x => i64 x) (by assumption), rfl⟩, rfl⟩)
     ·(try simp only [sH] at h70)
      try rw [if_pos h70] at hput
      refine cskip' (kthn (hK20 _ _ ?_))
      clear hK20
      refine cseq ?_; intro K25 hK25
      refine creg ?_
      refine ymv ?_
      refine yas ?_
      refine ynil' (kthn (hK25 _ _ ?_))
      clear hK25
      refine cret ?_
      first
        | (exfalso; omega; done)
        | (refine kretv Tryz.results71 rfl (L1 := [sc c _ 108, rdev p la _] ++ R) zge ?_
           rw [hput]; first | exact ⟨_, ⟨rfl, rfl⟩, rfl⟩ | exact ⟨_, ⟨congrArg (fun x => i64 x) (by assumption), rfl⟩, rfl⟩)
   clear hK10
   refine cseq ?_; intro K26 hK26
   refine creg ?_
   refine ymv ?_
   refine yni ?_
   refine y (ev_fieldAddr 3 rfl Tryz.underlying108 rfl Tryz.sizeOf3) rfl ?_
   refine y (ev_load rfl Tryz.isAgg3 zin rfl) rfl ?_
   refine y (ev_eql rfl rfl) rfl ?_
   refine ynil' (kthn (hK26 _ _ ?_))
   clear hK26
   refine ccond rfl (fun h98 => ?_) (fun h98 => ?_)
   ·(try simp only [sH] at h98)
    have hno : C.now = 0 := by omega
    rw [show C.other = C.b by unfold CellM.other; rw [if_pos hno], if_pos hno] at hJr10
    refine cseq ?_; intro K27 hK27
    refine creg ?_
    refine yas ?_
    refine ynil' (kthn (hK27 _ _ ?_))
    clear hK27
    refine creg ?_
    refine ymv ?_
    refine yni ?_
    refine y (ev_fieldAddr 2 rfl Tryz.underlying108 rfl Tryz.sizeOf3) rfl ?_
    refine y (ev_load rfl Tryz.isAgg3 zin rfl) rfl ?_
    refine yas ?_
    refine ynil' (kthn ?_)
    exact ksub zsub zge (hJr10 () trivial)
   ·(try simp only [sH] at h98)
    have hno : ¬ C.now = 0 := by omega
    rw [show C.other = C.a by unfold CellM.other; rw [if_neg hno], if_neg hno] at hJr10
    refine cskip' (kthn ?_)
    exact ksub zsub zge (hJr10 () trivial)
def KROpen (E : RDev) (a b : Int) (p la : Nat) (u : Value) (L' : List Seg) : Prop :=
 (openER E a b ≠ 0 ∧ u = .tuple #[nilP, i64 (openER E a b)] ∧ L' = [rdev p la E]) ∨ (openER E a b = 0 ∧ ∃ c, u = .tuple #[ptr c, i64 0] ∧ L' = [rcelP c p (openCR E a b), rdev p la E])
theorem rcOpen [Env] {R : List Seg} {p la : Nat} {E : RDev} {a b : Int} (hE : E.ok) (hlen : ∀ i : Int, 0 ≤ i → i < E.l.length → (E.sec i).length = 144) : Con Tryz.prog 44 [ptr p, i64 a, i64 b] [rdev p la E] R (KROpen E a b p la) := by
 have hn := hE.n
 refine con_enter Tryz.func44 Tryz.ntmps44 rfl rfl ?_
 refine cre (L' := [rP p la E, rL la E] ++ R) (by simp [rdev]) ?_; unfold rP
 refine cseq ?_; intro K1 hK1
 refine creg ?_
 refine yas ?_
 refine yas ?_
 refine ynil' (kthn (hK1 _ _ ?_))
 clear hK1
 refine cseq ?_; intro K2 hK2
 refine cseq ?_; intro K3 hK3
 refine creg ?_
 refine ymv ?_
 skip
 ·skip
  refine y (ev_eqlPnil rfl rfl Tryz.underlying26) rfl ?_
  refine ymv ?_
  refine ygo ?_
  refine ymv ?_
  refine ygo ?_
  refine ymv ?_
  refine ygo ?_
  refine y (ev_eql rfl rfl) rfl ?_
  refine ypb ?_
  refine ymv ?_
  refine ysplit 24 rfl (fun h115 => ?_) (fun h115 => ?_)
  ·(try simp only [sH] at h115)
   refine ygz ?_
   refine ygz ?_
   refine ypa ?_
   refine ymv ?_
   refine ygz ?_
   refine ygz ?_
   refine ypa ?_
   refine ymv ?_
   refine ygz ?_
   refine ygz ?_
   refine ygz ?_
   refine ygz ?_
   refine ygz ?_
   refine ygz ?_
   refine ygz ?_
   refine ypa ?_
   refine ymv ?_
   refine ygz ?_
   refine ygz ?_
   refine ygz ?_
   refine ygz ?_
   refine ygz ?_
   refine ygz ?_
   refine ygz ?_
   refine ypa ?_
   refine ynil' (kthn (hK3 _ _ ?_))
   clear hK3
   refine ccond1 rfl ?_
   refine cseq ?_; intro K4 hK4
   refine creg ?_
   have hop : openER E a b = 1 := by unfold openER; rw [if_pos (by omega)]
   refine yreP (L' := [rdev p la E] ++ R) (by simp [rdev, rP]) ?_
   refine yas ?_
   refine yas ?_
   refine ynil' (kthn (hK4 _ _ ?_))
   clear hK4
   refine cret (kthr ?_)
   first
     | (exfalso; omega; done)
     | (refine kretv2 Tryz.results44 rfl rfl (L1 := [rdev p la E] ++ R) zge ?_
        exact ⟨_, .inl ⟨by rw [hop]; decide, by rw [hop], rfl⟩, rfl⟩)
  ·(try simp only [sH] at h115)
   refine ygo ?_
   refine ymv ?_
   refine ygo ?_
   refine y (ev_lss rfl rfl) rfl ?_
   refine ypb ?_
   refine ymv ?_
   refine ysplit 28 rfl (fun h129 => ?_) (fun h129 => ?_)
   ·(try simp only [sH] at h129)
    refine ygz ?_
    refine ygz ?_
    refine ypa ?_
    refine ymv ?_
    refine ygz ?_
    refine ygz ?_
    refine ygz ?_
    refine ygz ?_
    refine ygz ?_
    refine ygz ?_
    refine ygz ?_
    refine ypa ?_
    refine ymv ?_
    refine ygz ?_
    refine ygz ?_
    refine ygz ?_
    refine ygz ?_
    refine ygz ?_
    refine ygz ?_
    refine ygz ?_
    refine ypa ?_
    refine ynil' (kthn (hK3 _ _ ?_))
    clear hK3
    refine ccond1 rfl ?_
    refine cseq ?_; intro K5 hK5
    refine creg ?_
    have hop : openER E a b = 1 := by unfold openER; rw [if_pos (by omega)]
    refine yreP (L' := [rdev p la E] ++ R) (by simp [rdev, rP]) ?_
    refine yas ?_
    refine yas ?_
    refine ynil' (kthn (hK5 _ _ ?_))
    clear hK5
    refine cret (kthr ?_)
    first
      | (exfalso; omega; done)
      | (refine kretv2 Tryz.results44 rfl rfl (L1 := [rdev p la E] ++ R) zge ?_
         exact ⟨_, .inl ⟨by rw [hop]; decide, by rw [hop], rfl⟩, rfl⟩)
   ·(try simp only [sH] at h129)
    refine ygo ?_
    refine ymv ?_
    refine ygo ?_
    refine y (ev_lss rfl rfl) rfl ?_
    refine ypb ?_
    refine ymv ?_
    refine ysplit 32 rfl (fun h141 => ?_) (fun h141 => ?_)
    ·(try simp only [sH] at h141)
     refine ygz ?_
     refine ygz ?_
     refine ygz ?_
     refine ygz ?_
     refine ygz ?_
     refine ygz ?_
     refine ygz ?_
     refine ypa ?_
     refine ymv ?_
     refine ygz ?_
     refine ygz ?_
     refine ygz ?_
     refine ygz ?_
     refine ygz ?_
     refine ygz ?_
     refine ygz ?_
     refine ypa ?_
     refine ynil' (kthn (hK3 _ _ ?_))
     clear hK3
     refine ccond1 rfl ?_
     refine cseq ?_; intro K6 hK6
     refine creg ?_
     have hop : openER E a b = 1 := by unfold openER; rw [if_pos (by omega)]
     refine yreP (L' := [rdev p la E] ++ R) (by simp [rdev, rP]) ?_
     refine yas ?_
     refine yas ?_
     refine ynil' (kthn (hK6 _ _ ?_))
     clear hK6
     refine cret (kthr ?_)
     first
       | (exfalso; omega; done)
       | (refine kretv2 Tryz.results44 rfl rfl (L1 := [rdev p la E] ++ R) zge ?_
          exact ⟨_, .inl ⟨by rw [hop]; decide, by rw [hop], rfl⟩, rfl⟩)
    ·(try simp only [sH] at h141)
     refine ygo ?_
     refine ymv ?_
     refine ygo ?_
     refine ymv ?_
     refine ygo ?_
     refine yni ?_
     refine ygo ?_
     refine y (ev_fieldAddr 0 rfl Tryz.underlying86 rfl Tryz.sizeOf84) rfl ?_
     refine ygo ?_
     refine y (ev_load rfl Tryz.isAgg84 zin rfl) rfl ?_
     refine ygo ?_
     first
       | refine y (ev_len rfl Tryz.underlying84) rfl ?_
       | refine y (ev_lenSv rfl Tryz.underlying84 (by assumption)) rfl ?_
       | refine y (ev_lenV rfl Tryz.underlying84 (RdV.lenVal (by assumption))) rfl ?_
       | refine y (ev_lenV rfl Tryz.underlying84 (RdB.lenVal (by assumption))) rfl ?_
     refine ygo ?_
     refine y (ev_geq rfl rfl) rfl ?_
     refine ypb ?_
     refine ymv ?_
     refine ysplit 41 rfl (fun h156 => ?_) (fun h156 => ?_)
     ·(try simp only [sH] at h156)
      refine ygz ?_
      refine ygz ?_
      refine ygz ?_
      refine ygz ?_
      refine ygz ?_
      refine ygz ?_
      refine ygz ?_
      refine ypa ?_
      refine ynil' (kthn (hK3 _ _ ?_))
      clear hK3
      refine ccond1 rfl ?_
      refine cseq ?_; intro K7 hK7
      refine creg ?_
      have hop : openER E a b = 1 := by unfold openER; rw [if_pos (by omega)]
      refine yreP (L' := [rdev p la E] ++ R) (by simp [rdev, rP]) ?_
      refine yas ?_
      refine yas ?_
      refine ynil' (kthn (hK7 _ _ ?_))
      clear hK7
      refine cret (kthr ?_)
      first
        | (exfalso; omega; done)
        | (refine kretv2 Tryz.results44 rfl rfl (L1 := [rdev p la E] ++ R) zge ?_
           exact ⟨_, .inl ⟨by rw [hop]; decide, by rw [hop], rfl⟩, rfl⟩)
     ·(try simp only [sH] at h156)
      refine ygo ?_
      refine ymv ?_
      refine ygo ?_
      refine ymv ?_
      refine ygo ?_
      refine yni ?_
      refine ygo ?_
      refine y (ev_fieldAddr 0 rfl Tryz.underlying86 rfl Tryz.sizeOf84) rfl ?_
      refine ygo ?_
      refine y (ev_load rfl Tryz.isAgg84 zin rfl) rfl ?_
      refine ygo ?_
      first
        | refine y (ev_len rfl Tryz.underlying84) rfl ?_
        | refine y (ev_lenSv rfl Tryz.underlying84 (by assumption)) rfl ?_
        | refine y (ev_lenV rfl Tryz.underlying84 (RdV.lenVal (by assumption))) rfl ?_
        | refine y (ev_lenV rfl Tryz.underlying84 (RdB.lenVal (by assumption))) rfl ?_
      refine ygo ?_
      refine y (ev_geq rfl rfl) rfl ?_
      refine ypb ?_
      refine ynil' (kthn (hK3 _ _ ?_))
      clear hK3
      refine ccond rfl (fun h168 => ?_) (fun h168 => ?_)
      ·(try simp only [sH] at h168)
       refine cseq ?_; intro K8 hK8
       refine creg ?_
       have hop : openER E a b = 1 := by unfold openER; rw [if_pos (by omega)]
       refine yreP (L' := [rdev p la E] ++ R) (by simp [rdev, rP]) ?_
       refine yas ?_
       refine yas ?_
       refine ynil' (kthn (hK8 _ _ ?_))
       clear hK8
       refine cret (kthr ?_)
       first
         | (exfalso; omega; done)
         | (refine kretv2 Tryz.results44 rfl rfl (L1 := [rdev p la E] ++ R) zge ?_
            exact ⟨_, .inl ⟨by rw [hop]; decide, by rw [hop], rfl⟩, rfl⟩)
      ·(try simp only [sH] at h168)
       refine cskip' (kthn (hK2 _ _ ?_))
       clear hK2
       refine cseq ?_; intro K9 hK9
       refine cseq ?_; intro K10 hK10
       refine creg ?_
       refine ymv ?_
       refine yni ?_
       refine y (ev_fieldAddr 1 rfl Tryz.underlying86 rfl Tryz.sizeOf4) rfl ?_
       refine y (ev_load rfl Tryz.isAgg4 zin rfl) rfl ?_
       refine ynil' (kthn (hK10 _ _ ?_))
       clear hK10
       refine ccond rfl (fun h175 => ?_) (fun h175 => ?_)
       ·(try simp only [sH] at h175)
        have hop : openER E a b = 30 := by unfold openER; rw [if_neg (by omega), if_pos h175]
        refine cseq ?_; intro K11 hK11
        refine creg ?_
        refine yreP (L' := [rdev p la E] ++ R) (by simp [rdev, rP]) ?_
        refine yas ?_
        refine yas ?_
        refine ynil' (kthn (hK11 _ _ ?_))
        clear hK11
        refine cret (kthr ?_)
        first
          | (exfalso; omega; done)
          | (refine kretv2 Tryz.results44 rfl rfl (L1 := [rdev p la E] ++ R) zge ?_
             exact ⟨_, .inl ⟨by rw [hop]; decide, by rw [hop], rfl⟩, rfl⟩)
       ·(try simp only [sH] at h175)
        have hop : openER E a b = 0 := by unfold openER; rw [if_neg (by omega), if_neg (by rw [h175]; decide)]
        have ha0 : E.has a = 0 := by unfold RDev.has; rw [if_neg (by rw [h175]; decide), if_neg (by omega)]
        have hb0 : E.has b = 0 := by unfold RDev.has; rw [if_neg (by rw [h175]; decide), if_neg (by omega)]
        have hla := hlen a (by omega) (by omega)
        have hlb := hlen b (by omega) (by omega)
        refine cskip' (kthn (hK9 _ _ ?_))
        clear hK9
        refine cseq ?_; intro K12 hK12
        refine creg ?_
        refine yreP (L' := [rdev p la E] ++ R) (by simp [rdev, rP]) ?_
        refine ymv ?_
        refine ymv ?_
        refine ymv ?_
        refine y (ev_build (vs := [ptr p, i64 a, i64 b, i64 0, i64 0, str []]) (zs := _) rfl Tryz.underlying108 Tryz.zeroValue108 rfl (.cons Tryz.sizeOf26 (.cons Tryz.sizeOf3 (.cons Tryz.sizeOf3 (.cons Tryz.sizeOf3 (.cons Tryz.sizeOf2 (.cons Tryz.sizeOf9 .nil)))))) ⟨⟨_, _, rfl, (by first | rfl | simp), (by first | decide | simp)⟩, ⟨⟨_, _, rfl, (by first | rfl | simp), (by first | decide | simp)⟩, ⟨⟨_, _, rfl, (by first | rfl | simp), (by first | decide | simp)⟩, trivial⟩⟩⟩ (by dsimp [fillL, splice, vcells] <;> rfl)) rfl ?_
        refine ya (ac_box (vs := [ptr p, i64 a, i64 b, i64 0, i64 0, str []]) rfl rfl) rfl ?_
        rintro v L' ⟨b58, rfl, rfl⟩
        refine yas ?_
        refine ynil' (kthn (hK12 _ _ ?_))
        clear hK12
        refine cseq ?_; intro K13 hK13
        refine creg ?_
        refine ymv ?_
        refine ymv ?_
        refine ycall (rdReadS hE ha0 hla) rfl Tryz.call27 ztk rfl ?_
        rintro v L' ⟨s62, rfl, ok62, rfl⟩
        refine ymv ?_
        refine yxt ?_
        refine yxt ?_
        refine yas ?_
        refine yas ?_
        refine ynil' (kthn (hK13 _ _ ?_))
        clear hK13
        refine cseq ?_; intro K14 hK14
        refine creg ?_
        refine ymv ?_
        refine ymv ?_
        refine ycall (rdReadS hE hb0 hlb) rfl Tryz.call27 ztk rfl ?_
        rintro v L' ⟨s68, rfl, ok68, rfl⟩
        refine ymv ?_
        refine yxt ?_
        refine yxt ?_
        refine yas ?_
        refine yas ?_
        refine ynil' (kthn (hK14 _ _ ?_))
        clear hK14
        refine cseq ?_; intro K15 hK15
        refine creg ?_
        refine ymv ?_
        refine ycall (rRead (bs := E.sec a) ?hb201 ?len201) rfl Tryz.call76 ztk rfl ?_
        case hb201 => exact rdY_sv zin ok62
        case len201 => omega
        rintro v L' ⟨rfl, rfl⟩
        refine ymv ?_
        refine yxt ?_
        refine yxt ?_
        refine yas ?_
        refine yas ?_
        refine ynil' (kthn (hK15 _ _ ?_))
        clear hK15
        refine cseq ?_; intro K16 hK16
        refine creg ?_
        refine ymv ?_
        refine ycall (rRead (bs := E.sec b) ?hb208 ?len208) rfl Tryz.call76 ztk rfl ?_
        case hb208 => exact rdY_sv zin ok68
        case len208 => omega
        rintro v L' ⟨rfl, rfl⟩
        have hcr : openCR E a b = if (readT (E.sec a)).1 < (readT (E.sec b)).1 then ⟨a, b, 1, (readT (E.sec b)).1, (readT (E.sec b)).2.1⟩ else if 0 < (readT (E.sec a)).1 then ⟨a, b, 0, (readT (E.sec a)).1, (readT (E.sec a)).2.1⟩ else ⟨a, b, -1, 0, []⟩ := rfl
        generalize readT (E.sec a) = ra at *
        generalize readT (E.sec b) = rb at *
        obtain ⟨g1, t1, f1⟩ := ra
        obtain ⟨g2, t2, f2⟩ := rb
        dsimp only at hcr ⊢
        refine ymv ?_
        refine yxt ?_
        refine yxt ?_
        refine yas ?_
        refine yas ?_
        refine ynil' (kthn (hK16 _ _ ?_))
        clear hK16
        refine cseq ?_; intro K17 hK17
        refine cseq ?_; intro K18 hK18
        refine creg ?_
        refine ymv ?_
        refine y (ev_gtr rfl rfl) rfl ?_
        refine ynil' (kthn (hK18 _ _ ?_))
        clear hK18
        refine ccond rfl (fun h216 => ?_) (fun h216 => ?_)
        ·(try simp only [sH] at h216)
         refine cseq ?_; intro K19 hK19
         refine creg ?_
         refine ymv ?_
         refine yni ?_
         refine y (ev_fieldAddr 3 rfl Tryz.underlying108 rfl Tryz.sizeOf3) rfl ?_
         refine ya0 (ac_store rfl rfl (by first | rfl | exact svVal_one _ _ | assumption) Tryz.sizeOf3 zrp rfl rfl) ?_
         rintro v L' ⟨rfl, rfl⟩
         refine ynil' (kthn (hK19 _ _ ?_))
         clear hK19
         refine cseq ?_; intro K20 hK20
         refine creg ?_
         refine ymv ?_
         refine ymv ?_
         refine yni ?_
         refine y (ev_fieldAddr 4 rfl Tryz.underlying108 rfl Tryz.sizeOf2) rfl ?_
         refine ya0 (ac_store rfl rfl (by first | rfl | exact svVal_one _ _ | assumption) Tryz.sizeOf2 zrp rfl rfl) ?_
         rintro v L' ⟨rfl, rfl⟩
         refine ynil' (kthn (hK20 _ _ ?_))
         clear hK20
         refine creg ?_
         refine ymv ?_
         refine ymv ?_
         refine yni ?_
         refine y (ev_fieldAddr 5 rfl Tryz.underlying108 rfl Tryz.sizeOf9) rfl ?_
         refine ya0 (ac_store rfl rfl (by first | rfl | exact svVal_one _ _ | assumption) Tryz.sizeOf9 zrp rfl rfl) ?_
         rintro v L' ⟨rfl, rfl⟩
         refine ynil' (kthn (hK17 _ _ ?_))
         clear hK17
         refine cseq ?_; intro K21 hK21
         refine cseq ?_; intro K22 hK22
         refine creg ?_
         refine ymv ?_
         refine ymv ?_
         refine y (ev_gtr rfl rfl) rfl ?_
         refine ynil' (kthn (hK22 _ _ ?_))
         clear hK22
         refine ccond rfl (fun h234 => ?_) (fun h234 => ?_)
         ·(try simp only [sH] at h234)
          rw [if_pos (by omega)] at hcr
          refine cseq ?_; intro K23 hK23
          refine creg ?_
          refine ymv ?_
          refine yni ?_
          refine y (ev_fieldAddr 3 rfl Tryz.underlying108 rfl Tryz.sizeOf3) rfl ?_
          refine ya0 (ac_store rfl rfl (by first | rfl | exact svVal_one _ _ | assumption) Tryz.sizeOf3 zrp rfl rfl) ?_
          rintro v L' ⟨rfl, rfl⟩
          refine ynil' (kthn (hK23 _ _ ?_))
          clear hK23
          refine cseq ?_; intro K24 hK24
          refine creg ?_
          refine ymv ?_
          refine ymv ?_
          refine yni ?_
          refine y (ev_fieldAddr 4 rfl Tryz.underlying108 rfl Tryz.sizeOf2) rfl ?_
          refine ya0 (ac_store rfl rfl (by first | rfl | exact svVal_one _ _ | assumption) Tryz.sizeOf2 zrp rfl rfl) ?_
          rintro v L' ⟨rfl, rfl⟩
          refine ynil' (kthn (hK24 _ _ ?_))
          clear hK24
          refine creg ?_
          refine ymv ?_
          refine ymv ?_
          refine yni ?_
          refine y (ev_fieldAddr 5 rfl Tryz.underlying108 rfl Tryz.sizeOf9) rfl ?_
          refine ya0 (ac_store rfl rfl (by first | rfl | exact svVal_one _ _ | assumption) Tryz.sizeOf9 zrp rfl rfl) ?_
          rintro v L' ⟨rfl, rfl⟩
          refine ynil' (kthn (hK21 _ _ ?_))
          clear hK21
          refine cseq ?_; intro K25 hK25
          refine creg ?_
          refine ymv ?_
          refine yas ?_
          refine yas ?_
          refine ynil' (kthn (hK25 _ _ ?_))
          clear hK25
          refine cret ?_
          first
            | (exfalso; omega; done)
            | (refine kretv2 Tryz.results44 rfl rfl (L1 := [sc b58 _ 108, rdev p la E] ++ R) zge ?_
               exact ⟨_, .inr ⟨hop, b58, rfl, by rw [hcr]; rfl⟩, rfl⟩)
         ·(try simp only [sH] at h234)
          rw [if_neg (by omega)] at hcr
          first | rw [if_pos (by omega)] at hcr | rw [if_neg (by omega)] at hcr
          refine cskip' (kthn (hK21 _ _ ?_))
          clear hK21
          refine cseq ?_; intro K26 hK26
          refine creg ?_
          refine ymv ?_
          refine yas ?_
          refine yas ?_
          refine ynil' (kthn (hK26 _ _ ?_))
          clear hK26
          refine cret ?_
          first
            | (exfalso; omega; done)
            | (refine kretv2 Tryz.results44 rfl rfl (L1 := [sc b58 _ 108, rdev p la E] ++ R) zge ?_
               exact ⟨_, .inr ⟨hop, b58, rfl, by rw [hcr]; rfl⟩, rfl⟩)
        ·(try simp only [sH] at h216)
         refine cskip' (kthn (hK17 _ _ ?_))
         clear hK17
         refine cseq ?_; intro K27 hK27
         refine cseq ?_; intro K28 hK28
         refine creg ?_
         refine ymv ?_
         refine ymv ?_
         refine y (ev_gtr rfl rfl) rfl ?_
         refine ynil' (kthn (hK28 _ _ ?_))
         clear hK28
         refine ccond rfl (fun h258 => ?_) (fun h258 => ?_)
         ·(try simp only [sH] at h258)
          rw [if_pos (by omega)] at hcr
          refine cseq ?_; intro K29 hK29
          refine creg ?_
          refine ymv ?_
          refine yni ?_
          refine y (ev_fieldAddr 3 rfl Tryz.underlying108 rfl Tryz.sizeOf3) rfl ?_
          refine ya0 (ac_store rfl rfl (by first | rfl | exact svVal_one _ _ | assumption) Tryz.sizeOf3 zrp rfl rfl) ?_
          rintro v L' ⟨rfl, rfl⟩
          refine ynil' (kthn (hK29 _ _ ?_))
          clear hK29
          refine cseq ?_; intro K30 hK30
          refine creg ?_
          refine ymv ?_
          refine ymv ?_
          refine yni ?_
          refine y (ev_fieldAddr 4 rfl Tryz.underlying108 rfl Tryz.sizeOf2) rfl ?_
          refine ya0 (ac_store rfl rfl (by first | rfl | exact svVal_one _ _ | assumption) Tryz.sizeOf2 zrp rfl rfl) ?_
          rintro v L' ⟨rfl, rfl⟩
          refine ynil' (kthn (hK30 _ _ ?_))
          clear hK30
          refine creg ?_
          refine ymv ?_
          refine ymv ?_
          refine yni ?_
          refine y (ev_fieldAddr 5 rfl Tryz.underlying108 rfl Tryz.sizeOf9) rfl ?_
          refine ya0 (ac_store rfl rfl (by first | rfl | exact svVal_one _ _ | assumption) Tryz.sizeOf9 zrp rfl rfl) ?_
          rintro v L' ⟨rfl, rfl⟩
          refine ynil' (kthn (hK27 _ _ ?_))
          clear hK27
          refine cseq ?_; intro K31 hK31
          refine creg ?_
          refine ymv ?_
          refine yas ?_
          refine yas ?_
          refine ynil' (kthn (hK31 _ _ ?_))
          clear hK31
          refine cret ?_
          first
            | (exfalso; omega; done)
            | (refine kretv2 Tryz.results44 rfl rfl (L1 := [sc b58 _ 108, rdev p la E] ++ R) zge ?_
               exact ⟨_, .inr ⟨hop, b58, rfl, by rw [hcr]; rfl⟩, rfl⟩)
         ·(try simp only [sH] at h258)
          rw [if_neg (by omega)] at hcr
          first | rw [if_pos (by omega)] at hcr | rw [if_neg (by omega)] at hcr
          refine cskip' (kthn (hK27 _ _ ?_))
          clear hK27
          refine cseq ?_; intro K32 hK32
          refine creg ?_
          refine ymv ?_
          refine yas ?_
          refine yas ?_
          refine ynil' (kthn (hK32 _ _ ?_))
          clear hK32
          refine cret ?_
          first
            | (exfalso; omega; done)
            | (refine kretv2 Tryz.results44 rfl rfl (L1 := [sc b58 _ 108, rdev p la E] ++ R) zge ?_
               exact ⟨_, .inr ⟨hop, b58, rfl, by rw [hcr]; rfl⟩, rfl⟩)
end W
end Go.Proofs
