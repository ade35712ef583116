/- A part of the proof: contracts and plain lemmas, each without conditions beyond those that it names. -/
import Derived.Test.YtebijajimmjknaaGreatW4
import Derived.Test.YtebijajimmjknaaGreatGH
set_option linter.unusedVariables false
set_option linter.unusedSimpArgs false
set_option linter.constructorNameAsVariable false
namespace Go.Proofs
open Go Go.Sl
namespace W
set_option linter.unusedVariables false
def KWOpen (D : Dev) (a b wait : Int) (q : Q3) (u : Value) (L' : List Seg) : Prop :=
  (witE D a b wait ≠ 0 ∧ u = .tuple #[nilP, i64 (witE D a b wait)] ∧ L' = [dev q D]) ∨ (witE D a b wait = 0 ∧ ∃ s c, u = .tuple #[ptr s, i64 0] ∧ L' = [witP s c (witO D a b wait), celP c q (openC D a b), dev q D])
theorem wOpen [Env] {R : List Seg} {q : Q3} {D : Dev} {a b wait : Int} (hD : D.ok) : Con Tryz.prog 8 [dp q, i64 a, i64 b, i64 wait] [dev q D] R (KWOpen D a b wait q) := by
  refine con_enter Tryz.func8 Tryz.ntmps8 rfl rfl ?_
  refine cseq ?_; intro K1 hK1
  refine creg ?_
  refine y (ev_assign rfl) rfl ?_
  refine y (ev_assign rfl) rfl ?_
  refine ynil' (kthn (hK1 _ _ ?_))
  clear hK1
  refine cseq ?_; intro K2 hK2
  refine cseq ?_; intro K3 hK3
  refine creg ?_
  refine y (ev_move rfl) rfl ?_
  refine ycall (wWithin) rfl Tryz.call39 ztk rfl ?_
  rintro v L' ⟨rfl, rfl⟩
  refine y (ev_not rfl) rfl ?_
  refine ynil' (kthn (hK3 _ _ ?_))
  clear hK3
  refine ccond rfl (fun h6 => ?_) (fun h6 => ?_)
  ·(try simp only [sH] at h6)
   refine cseq ?_; intro K4 hK4
   refine creg ?_
   have hwe : witE D a b wait = 1 := by unfold witE; rw [if_pos (by simp_all)]
   refine y (ev_assign rfl) rfl ?_
   refine y (ev_assign rfl) rfl ?_
   refine ynil' (kthn (hK4 _ _ ?_))
   clear hK4
   refine cret (kthr ?_)
   first
     | (exfalso; omega; done)
     | (refine kretv2 Tryz.results8 rfl rfl (L1 := [dev q D] ++ R) zge ?_
        exact ⟨_, .inl ⟨by rw [hwe]; first | decide | assumption, by rw [hwe], rfl⟩, rfl⟩)
     | (refine kretv2 Tryz.results8 rfl rfl (L1 := [witP b33 c22 _, celP c22 q (openC D a b), dev q D] ++ R) zge ?_
        exact ⟨_, .inr ⟨by rw [hwe]; exact he0, b33, c22, rfl, by unfold witO; rw [hfa, show max wait 0 = wait by omega]⟩, rfl⟩)
  ·(try simp only [sH] at h6)
   refine cskip' (kthn (hK2 _ _ ?_))
   clear hK2
   refine cseq ?_; intro K5 hK5
   refine creg ?_
   have hwin : within3 wait 1 1099511627776 = true := by simp_all
   have hwb := within3_iff.1 hwin
   have hwe : witE D a b wait = openE D a b := by unfold witE; rw [if_neg (by rw [hwin]; decide)]
   refine y (ev_move rfl) rfl ?_
   refine y (ev_move rfl) rfl ?_
   refine y (ev_move rfl) rfl ?_
   refine ycall (cOpen hD) rfl Tryz.call40 ztk rfl ?_
   rintro v L' hop
   rcases hop with ⟨he0, rfl, rfl⟩ | ⟨he0, c22, rfl, rfl⟩
   ·skip
    refine y (ev_move rfl) rfl ?_
    refine y (ev_extract rfl rfl) rfl ?_
    refine y (ev_extract rfl rfl) rfl ?_
    refine y (ev_assign rfl) rfl ?_
    refine y (ev_assign rfl) rfl ?_
    refine ynil' (kthn (hK5 _ _ ?_))
    clear hK5
    refine cseq ?_; intro K6 hK6
    refine cseq ?_; intro K7 hK7
    refine creg ?_
    refine y (ev_move rfl) rfl ?_
    refine y (ev_neq rfl rfl) rfl ?_
    try rw [show (!decide (openE D a b = 0)) = true by simp [he0]]
    refine ynil' (kthn (hK7 _ _ ?_))
    clear hK7
    refine ccond1 rfl ?_
    refine cseq ?_; intro K8 hK8
    refine creg ?_
    refine y (ev_move rfl) rfl ?_
    refine y (ev_assign rfl) rfl ?_
    refine y (ev_assign rfl) rfl ?_
    refine ynil' (kthn (hK8 _ _ ?_))
    clear hK8
    refine cret (kthr ?_)
    first
      | (exfalso; omega; done)
      | (refine kretv2 Tryz.results8 rfl rfl (L1 := [dev q D] ++ R) zge ?_
         exact ⟨_, .inl ⟨by rw [hwe]; first | decide | assumption, by rw [hwe], rfl⟩, rfl⟩)
      | (refine kretv2 Tryz.results8 rfl rfl (L1 := [witP b33 c22 _, celP c22 q (openC D a b), dev q D] ++ R) zge ?_
         exact ⟨_, .inr ⟨by rw [hwe]; exact he0, b33, c22, rfl, by unfold witO; rw [hfa, show max wait 0 = wait by omega]⟩, rfl⟩)
   ·skip
    refine y (ev_move rfl) rfl ?_
    refine y (ev_extract rfl rfl) rfl ?_
    refine y (ev_extract rfl rfl) rfl ?_
    refine y (ev_assign rfl) rfl ?_
    refine y (ev_assign rfl) rfl ?_
    refine ynil' (kthn (hK5 _ _ ?_))
    clear hK5
    refine cseq ?_; intro K9 hK9
    refine cseq ?_; intro K10 hK10
    refine creg ?_
    refine y (ev_move rfl) rfl ?_
    refine y (ev_neq rfl rfl) rfl ?_
    try rw [show (!decide (openE D a b = 0)) = true by simp [he0]]
    refine ynil' (kthn (hK10 _ _ ?_))
    clear hK10
    refine ccond0 rfl ?_
    refine cskip' (kthn (hK9 _ _ ?_))
    clear hK9
    refine cseq ?_; intro K11 hK11
    refine creg ?_
    have hcl := (openC_ok he0).1.text
    refine y (ev_move rfl) rfl ?_
    refine y (ev_buildA (zs := _) rfl Tryz.underlying91 Tryz.zeroValue91 rfl Tryz.sizeOf2 ⟨⟨_, _, rfl, (by first | rfl | simp), (by first | decide | simp)⟩, ⟨⟨_, _, rfl, (by first | rfl | simp), (by first | decide | simp)⟩, trivial⟩⟩ (by dsimp [fillL, splice, vcells] <;> rfl)) rfl ?_
    refine y (ev_build (zs := _) rfl Tryz.underlying93 Tryz.zeroValue93 rfl (.cons Tryz.sizeOf2 (.cons Tryz.sizeOf3 (.cons Tryz.sizeOf3 (.cons Tryz.sizeOf2 (.cons Tryz.sizeOf91 .nil))))) ⟨⟨_, _, rfl, (by first | rfl | simp), (by first | decide | simp)⟩, ⟨⟨_, _, rfl, (by first | rfl | simp), (by first | decide | simp)⟩, ⟨⟨_, _, rfl, (by first | rfl | simp), (by first | decide | simp)⟩, trivial⟩⟩⟩ (by dsimp [fillL, splice, vcells] <;> rfl)) rfl ?_
    refine y (ev_move rfl) rfl ?_
    refine y (ev_build (zs := _) rfl Tryz.underlying97 Tryz.zeroValue97 rfl (.cons Tryz.sizeOf88 (.cons Tryz.sizeOf93 (.cons Tryz.sizeOf95 (.cons Tryz.sizeOf2 .nil)))) ⟨⟨_, _, rfl, (by first | rfl | simp), (by first | decide | simp)⟩, ⟨⟨_, _, rfl, (by first | rfl | simp), (by first | decide | simp)⟩, ⟨⟨_, _, rfl, (by first | rfl | simp), (by first | decide | simp)⟩, trivial⟩⟩⟩ (by dsimp [fillL, splice, vcells] <;> rfl)) rfl ?_
    refine ya (ac_box rfl rfl) rfl ?_
    rintro v L' ⟨b33, rfl, rfl⟩
    refine y (ev_assign rfl) rfl ?_
    refine ynil' (kthn (hK11 _ _ ?_))
    clear hK11
    refine cseq ?_; intro K12 hK12
    refine creg ?_
    refine y (ev_move rfl) rfl ?_
    refine ycall (cGet) rfl Tryz.call42 ztk rfl ?_
    rintro v L' ⟨rfl, rfl⟩
    refine ya (ac_toBytesY rfl Tryz.underlying9 Tryz.underlying50 Tryz.underlying5) rfl ?_
    rintro v L' ⟨b37, c37, sp37, fr37, rfl, hc37, rfl⟩
    refine ycall (cDecode (bs := (openC D a b).text) ?hb40) rfl Tryz.call41 ztk rfl ?_
    case hb40 => exact rdY_in zin hc37
    rintro v L' ⟨sn38, st38, rfl, ok38, rfl⟩
    obtain ⟨hbad, hgood⟩ := @facts_dich (openC D a b).text
    generalize decM (openC D a b).text = de at *
    obtain ⟨rc, er⟩ := de
    dsimp only at hbad hgood ok38 ⊢
    have okn := ok38.n
    have okt := ok38.t
    unfold recV
    have hvt : RdV [svSeg st38 9 (strsV rc.texts)] (svVal st38 rc.texts.length) rc.texts.length (strsV rc.texts) := rdV_sv .z okt
    have hvn : RdV [svSeg sn38 2 (intsV rc.nums)] (svVal sn38 rc.nums.length) rc.nums.length (intsV rc.nums) := rdV_sv .z okn
    refine y (ev_move rfl) rfl ?_
    refine y (ev_extract rfl rfl) rfl ?_
    refine y (ev_extract rfl rfl) rfl ?_
    refine ya (ac_alloc Tryz.zeroValue100 rfl) rfl ?_
    rintro v L' ⟨b13, rfl, rfl⟩
    refine ya0 (ac_storeAll rfl rfl (by first | exact bytesV_one _ | (simp [Value.oneCell']; done) | (simp only [List.forall_mem_cons, List.not_mem_nil, false_implies, implies_true, svVal_one, and_true, true_and, and_self]; first | done | simp [Value.oneCell'])) Tryz.sizeOf100 zrp (by first | rfl | assumption | (simp [*]; done) | (simp [*]; omega)) (by first | rfl | assumption | (simp [*]; done) | (simp [*]; omega))) ?_
    rintro v L' ⟨rfl, rfl⟩
    refine y (ev_assign rfl) rfl ?_
    refine ynil' (kthn (hK12 _ _ ?_))
    clear hK12
    refine cseq ?_; intro K13 hK13
    have hJr11 : ∀ x : FactM, (factsOf (openC D a b).text = x) → Sk 126 K13 ([(12, ptr b33), (3, i64 wait)]) ([witP b33 c22 ⟨openC D a b, x, 0, wait⟩, celP c22 q (openC D a b), dev q D] ++ R) := by
     rintro fa hIr11
     refine hK13 _ _ ?_
     have hfa := hIr11
     refine cseq ?_; intro K14 hK14
     refine creg ?_
     refine y (ev_move rfl) rfl ?_
     refine y (ev_nil rfl) rfl ?_
     refine y (ev_fieldAddr 7 rfl Tryz.underlying97 rfl Tryz.sizeOf95) rfl ?_
     refine y (ev_move rfl) rfl ?_
     refine ycall (tSet (W := ⟨openC D a b, fa, 0, wait⟩)) rfl Tryz.call43 ztk rfl ?_
     rintro v L' ⟨rfl, rfl⟩
     refine ynil' (kthn (hK14 _ _ ?_))
     clear hK14
     refine cseq ?_; intro K15 hK15
     refine creg ?_
     refine y (ev_move rfl) rfl ?_
     refine y (ev_assign rfl) rfl ?_
     refine y (ev_assign rfl) rfl ?_
     refine ynil' (kthn (hK15 _ _ ?_))
     clear hK15
     refine cret ?_
     first
       | (exfalso; omega; done)
       | (refine kretv2 Tryz.results8 rfl rfl (L1 := [dev q D] ++ R) zge ?_
          exact ⟨_, .inl ⟨by rw [hwe]; first | decide | assumption, by rw [hwe], rfl⟩, rfl⟩)
       | (refine kretv2 Tryz.results8 rfl rfl (L1 := [witP b33 c22 _, celP c22 q (openC D a b), dev q D] ++ R) zge ?_
          exact ⟨_, .inr ⟨by rw [hwe]; exact he0, b33, c22, rfl, by unfold witO; rw [hfa, show max wait 0 = wait by omega]⟩, rfl⟩)
    clear hK13
    refine cseq ?_; intro K16 hK16
    refine creg ?_
    refine y (ev_fieldAddr 1 rfl Tryz.underlying100 rfl Tryz.sizeOf53) rfl ?_
    refine y (ev_load rfl Tryz.isAgg53 zin rfl) rfl ?_
    refine y (ev_assign rfl) rfl ?_
    refine ynil' (kthn (hK16 _ _ ?_))
    clear hK16
    refine cseq ?_; intro K17 hK17
    refine creg ?_
    refine y (ev_move rfl) rfl ?_
    refine y (ev_eql rfl rfl) rfl ?_
    refine y (ev_move rfl) rfl ?_
    refine ysplit 45 rfl (fun h61 => ?_) (fun h61 => ?_)
    ·(try simp only [sH] at h61)
     refine yg1 rfl rfl ?_
     refine y (ev_fieldAddr 0 rfl Tryz.underlying100 rfl Tryz.sizeOf3) rfl ?_
     refine yg1 rfl rfl ?_
     refine y (ev_load rfl Tryz.isAgg3 zin rfl) rfl ?_
     refine yg1 rfl rfl ?_
     refine y (ev_eql rfl rfl) rfl ?_
     refine y (ev_pick1 rfl rfl) rfl ?_
     refine y (ev_move rfl) rfl ?_
     refine ysplit 50 rfl (fun h67 => ?_) (fun h67 => ?_)
     ·(try simp only [sH] at h67)
      refine yg1 rfl rfl ?_
      refine y (ev_move rfl) rfl ?_
      refine yg1 rfl rfl ?_
      first
        | refine y (ev_len rfl Tryz.underlying53) rfl ?_
        | refine y (ev_lenSv rfl Tryz.underlying53 (by assumption)) rfl ?_
        | refine y (ev_lenV rfl Tryz.underlying53 (RdV.lenVal (by assumption))) rfl ?_
        | refine y (ev_lenV rfl Tryz.underlying53 (RdB.lenVal (by assumption))) rfl ?_
      refine yg1 rfl rfl ?_
      refine y (ev_eql rfl rfl) rfl ?_
      refine y (ev_pick1 rfl rfl) rfl ?_
      refine y (ev_move rfl) rfl ?_
      refine ysplit 55 rfl (fun h73 => ?_) (fun h73 => ?_)
      ·(try simp only [sH] at h73)
       refine yg1 rfl rfl ?_
       refine y (ev_fieldAddr 2 rfl Tryz.underlying100 rfl Tryz.sizeOf98) rfl ?_
       refine yg1 rfl rfl ?_
       refine y (ev_load rfl Tryz.isAgg98 zin rfl) rfl ?_
       refine yg1 rfl rfl ?_
       first
         | refine y (ev_len rfl Tryz.underlying98) rfl ?_
         | refine y (ev_lenSv rfl Tryz.underlying98 (by assumption)) rfl ?_
         | refine y (ev_lenV rfl Tryz.underlying98 (RdV.lenVal (by assumption))) rfl ?_
         | refine y (ev_lenV rfl Tryz.underlying98 (RdB.lenVal (by assumption))) rfl ?_
       refine yg1 rfl rfl ?_
       refine y (ev_eql rfl rfl) rfl ?_
       refine y (ev_pick1 rfl rfl) rfl ?_
       refine y (ev_move rfl) rfl ?_
       refine ysplit 61 rfl (fun h80 => ?_) (fun h80 => ?_)
       ·(try simp only [sH] at h80)
        refine yg1 rfl rfl ?_
        refine y (ev_move rfl) rfl ?_
        refine yg1 rfl rfl ?_
        refine y (ev_ixV hvn rfl rfl Tryz.underlying53 Tryz.sizeOf2 (by omega) (by omega)) rfl ?_
        refine yg1 rfl rfl ?_
        refine y (ev_loadV 0 hvn zge rfl Tryz.isAgg2 rfl (intsV_get (getd_get (d := 0) (by omega)))) rfl ?_
        refine yg1 rfl rfl ?_
        refine ycall (wWithin) rfl Tryz.call39 ztk rfl ?_
        rintro v L' ⟨rfl, rfl⟩
        refine y (ev_pick1 rfl rfl) rfl ?_
        refine y (ev_move rfl) rfl ?_
        refine ysplit 67 rfl (fun h87 => ?_) (fun h87 => ?_)
        ·(try simp only [sH] at h87)
         refine yg1 rfl rfl ?_
         refine y (ev_move rfl) rfl ?_
         refine yg1 rfl rfl ?_
         refine y (ev_ixV hvn rfl rfl Tryz.underlying53 Tryz.sizeOf2 (by omega) (by omega)) rfl ?_
         refine yg1 rfl rfl ?_
         refine y (ev_loadV 1 hvn zge rfl Tryz.isAgg2 rfl (intsV_get (getd_get (d := 0) (by omega)))) rfl ?_
         refine yg1 rfl rfl ?_
         refine ycall (wWithin) rfl Tryz.call39 ztk rfl ?_
         rintro v L' ⟨rfl, rfl⟩
         refine y (ev_pick1 rfl rfl) rfl ?_
         refine y (ev_move rfl) rfl ?_
         refine ysplit 73 rfl (fun h94 => ?_) (fun h94 => ?_)
         ·(try simp only [sH] at h94)
          refine yg1 rfl rfl ?_
          refine y (ev_move rfl) rfl ?_
          refine yg1 rfl rfl ?_
          refine y (ev_ixV hvn rfl rfl Tryz.underlying53 Tryz.sizeOf2 (by omega) (by omega)) rfl ?_
          refine yg1 rfl rfl ?_
          refine y (ev_loadV 2 hvn zge rfl Tryz.isAgg2 rfl (intsV_get (getd_get (d := 0) (by omega)))) rfl ?_
          refine yg1 rfl rfl ?_
          refine ycall (wWithin) rfl Tryz.call39 ztk rfl ?_
          rintro v L' ⟨rfl, rfl⟩
          refine y (ev_pick1 rfl rfl) rfl ?_
          refine y (ev_move rfl) rfl ?_
          refine ysplit 79 rfl (fun h101 => ?_) (fun h101 => ?_)
          ·(try simp only [sH] at h101)
           refine yg1 rfl rfl ?_
           refine y (ev_move rfl) rfl ?_
           refine yg1 rfl rfl ?_
           refine y (ev_ixV hvn rfl rfl Tryz.underlying53 Tryz.sizeOf2 (by omega) (by omega)) rfl ?_
           refine yg1 rfl rfl ?_
           refine y (ev_loadV 3 hvn zge rfl Tryz.isAgg2 rfl (intsV_get (getd_get (d := 0) (by omega)))) rfl ?_
           refine yg1 rfl rfl ?_
           refine ycall (wWithin) rfl Tryz.call39 ztk rfl ?_
           rintro v L' ⟨rfl, rfl⟩
           refine y (ev_pick1 rfl rfl) rfl ?_
           refine y (ev_move rfl) rfl ?_
           refine ysplit 85 rfl (fun h108 => ?_) (fun h108 => ?_)
           ·(try simp only [sH] at h108)
            refine yg1 rfl rfl ?_
            refine y (ev_move rfl) rfl ?_
            refine yg1 rfl rfl ?_
            refine y (ev_ixV hvn rfl rfl Tryz.underlying53 Tryz.sizeOf2 (by omega) (by omega)) rfl ?_
            refine yg1 rfl rfl ?_
            refine y (ev_loadV 4 hvn zge rfl Tryz.isAgg2 rfl (intsV_get (getd_get (d := 0) (by omega)))) rfl ?_
            refine yg1 rfl rfl ?_
            refine ycall (wWithin) rfl Tryz.call39 ztk rfl ?_
            rintro v L' ⟨rfl, rfl⟩
            refine y (ev_pick1 rfl rfl) rfl ?_
            refine y (ev_move rfl) rfl ?_
            refine ysplit 91 rfl (fun h115 => ?_) (fun h115 => ?_)
            ·(try simp only [sH] at h115)
             refine yg1 rfl rfl ?_
             refine y (ev_move rfl) rfl ?_
             refine yg1 rfl rfl ?_
             refine y (ev_ixV hvn rfl rfl Tryz.underlying53 Tryz.sizeOf2 (by omega) (by omega)) rfl ?_
             refine yg1 rfl rfl ?_
             refine y (ev_loadV 5 hvn zge rfl Tryz.isAgg2 rfl (intsV_get (getd_get (d := 0) (by omega)))) rfl ?_
             refine yg1 rfl rfl ?_
             refine ycall (wWithin) rfl Tryz.call39 ztk rfl ?_
             rintro v L' ⟨rfl, rfl⟩
             refine y (ev_pick1 rfl rfl) rfl ?_
             refine ynil' (kthn (hK17 _ _ ?_))
             clear hK17
             refine ccond rfl (fun h121 => ?_) (fun h121 => ?_)
             ·(try simp only [sH] at h121)
              refine cdraw 23 [(0, true), (1, true), (2, true), (3, true), (4, true), (5, true), (6, true), (7, true), (8, true), (9, true), (10, true), (11, true), (12, true), (13, true), (14, true), (15, true), (16, true), (17, true), (18, true), (19, true), (20, true), (21, true), (22, true)] ([svSeg sn38 2 (intsV rc.nums), celP c22 q (openC D a b), dev q D] ++ R) Tryz.mixed (by kernel_rfl) zge ?_
              have hfa := hgood (by unfold BadF; simp only [not_or, Bool.not_eq_false]; refine ⟨by omega, by omega, by omega, by omega, ?_, ?_, ?_, ?_, ?_, ?_⟩ <;> assumption)
              refine hr rfl (ev_move rfl) rfl ?_
              refine hr rfl (ev_move rfl) rfl ?_
              refine hr rfl (ev_ixV hvn rfl rfl Tryz.underlying53 Tryz.sizeOf2 (by omega) (by omega)) rfl ?_
              refine hr rfl (ev_loadV 0 hvn zge rfl Tryz.isAgg2 rfl (intsV_get (getd_get (d := 0) (by omega)))) rfl ?_
              refine hr rfl (ev_move rfl) rfl ?_
              refine hr rfl (ev_ixV hvn rfl rfl Tryz.underlying53 Tryz.sizeOf2 (by omega) (by omega)) rfl ?_
              refine hr rfl (ev_loadV 1 hvn zge rfl Tryz.isAgg2 rfl (intsV_get (getd_get (d := 0) (by omega)))) rfl ?_
              refine hr rfl (ev_move rfl) rfl ?_
              refine hr rfl (ev_ixV hvn rfl rfl Tryz.underlying53 Tryz.sizeOf2 (by omega) (by omega)) rfl ?_
              refine hr rfl (ev_loadV 2 hvn zge rfl Tryz.isAgg2 rfl (intsV_get (getd_get (d := 0) (by omega)))) rfl ?_
              refine hr rfl (ev_move rfl) rfl ?_
              refine hr rfl (ev_ixV hvn rfl rfl Tryz.underlying53 Tryz.sizeOf2 (by omega) (by omega)) rfl ?_
              refine hr rfl (ev_loadV 3 hvn zge rfl Tryz.isAgg2 rfl (intsV_get (getd_get (d := 0) (by omega)))) rfl ?_
              refine hr rfl (ev_move rfl) rfl ?_
              refine hr rfl (ev_ixV hvn rfl rfl Tryz.underlying53 Tryz.sizeOf2 (by omega) (by omega)) rfl ?_
              refine hr rfl (ev_loadV 4 hvn zge rfl Tryz.isAgg2 rfl (intsV_get (getd_get (d := 0) (by omega)))) rfl ?_
              refine hr rfl (ev_move rfl) rfl ?_
              refine hr rfl (ev_ixV hvn rfl rfl Tryz.underlying53 Tryz.sizeOf2 (by omega) (by omega)) rfl ?_
              refine hr rfl (ev_loadV 5 hvn zge rfl Tryz.isAgg2 rfl (intsV_get (getd_get (d := 0) (by omega)))) rfl ?_
              refine hr rfl (ev_buildA (zs := _) rfl Tryz.underlying91 Tryz.zeroValue91 rfl Tryz.sizeOf2 ⟨⟨_, _, rfl, (by first | rfl | simp), (by first | decide | simp)⟩, ⟨⟨_, _, rfl, (by first | rfl | simp), (by first | decide | simp)⟩, trivial⟩⟩ (by dsimp [fillL, splice, vcells] <;> rfl)) rfl ?_
              refine hr rfl (ev_build (zs := _) rfl Tryz.underlying93 Tryz.zeroValue93 rfl (.cons Tryz.sizeOf2 (.cons Tryz.sizeOf3 (.cons Tryz.sizeOf3 (.cons Tryz.sizeOf2 (.cons Tryz.sizeOf91 .nil))))) ⟨⟨_, _, rfl, (by first | rfl | simp), (by first | decide | simp)⟩, ⟨⟨_, _, rfl, (by first | rfl | simp), (by first | decide | simp)⟩, ⟨⟨_, _, rfl, (by first | rfl | simp), (by first | decide | simp)⟩, ⟨⟨_, _, rfl, (by first | rfl | simp), (by first | decide | simp)⟩, ⟨⟨_, _, rfl, (by first | rfl | simp), (by first | decide | simp)⟩, trivial⟩⟩⟩⟩⟩ (by dsimp [fillL, splice, vcells] <;> rfl)) rfl ?_
              refine hr rfl (ev_nil rfl) rfl ?_
              refine hr rfl (ev_fieldAddr 1 rfl Tryz.underlying97 rfl Tryz.sizeOf93) rfl ?_
              refine hnil ?_
              refine ya0 (ac_storeN rfl rfl (by first | exact bytesV_one _ | (simp [Value.oneCell']; done) | (simp only [List.forall_mem_cons, List.not_mem_nil, false_implies, implies_true, svVal_one, and_true, true_and, and_self]; first | done | simp [Value.oneCell'])) Tryz.sizeOf93 zrp rfl (by first | decide | (simp; done) | (simp; omega)) rfl) ?_
              rintro v L' ⟨rfl, rfl⟩
              refine hnoP' (kthn ?_)
              first
                | exact ksub zsub zge (hJr11 _ hfa)
                | (have hfa := hbad (by unfold BadF; first | omega | (simp_all; done)); exact ksub zsub zge (hJr11 _ hfa))
             ·(try simp only [sH] at h121)
              refine cskip' (kthn ?_)
              first
                | exact ksub zsub zge (hJr11 _ hfa)
                | (have hfa := hbad (by unfold BadF; first | omega | (simp_all; done)); exact ksub zsub zge (hJr11 _ hfa))
            ·(try simp only [sH] at h115)
             refine yg0 rfl rfl rfl rfl ?_
             refine yg0 rfl rfl rfl rfl ?_
             refine yg0 rfl rfl rfl rfl ?_
             refine yg0 rfl rfl rfl rfl ?_
             refine y (ev_pick0 rfl rfl) rfl ?_
             refine ynil' (kthn (hK17 _ _ ?_))
             clear hK17
             refine ccond0 rfl ?_
             refine cskip' (kthn ?_)
             first
               | exact ksub zsub zge (hJr11 _ hfa)
               | (have hfa := hbad (by unfold BadF; first | omega | (simp_all; done)); exact ksub zsub zge (hJr11 _ hfa))
           ·(try simp only [sH] at h108)
            refine yg0 rfl rfl rfl rfl ?_
            refine yg0 rfl rfl rfl rfl ?_
            refine yg0 rfl rfl rfl rfl ?_
            refine yg0 rfl rfl rfl rfl ?_
            refine y (ev_pick0 rfl rfl) rfl ?_
            refine y (ev_move rfl) rfl ?_
            refine yg0 rfl rfl rfl rfl ?_
            refine yg0 rfl rfl rfl rfl ?_
            refine yg0 rfl rfl rfl rfl ?_
            refine yg0 rfl rfl rfl rfl ?_
            refine y (ev_pick0 rfl rfl) rfl ?_
            refine ynil' (kthn (hK17 _ _ ?_))
            clear hK17
            refine ccond0 rfl ?_
            refine cskip' (kthn ?_)
            first
              | exact ksub zsub zge (hJr11 _ hfa)
              | (have hfa := hbad (by unfold BadF; first | omega | (simp_all; done)); exact ksub zsub zge (hJr11 _ hfa))
          ·(try simp only [sH] at h101)
           refine yg0 rfl rfl rfl rfl ?_
           refine yg0 rfl rfl rfl rfl ?_
           refine yg0 rfl rfl rfl rfl ?_
           refine yg0 rfl rfl rfl rfl ?_
           refine y (ev_pick0 rfl rfl) rfl ?_
           refine y (ev_move rfl) rfl ?_
           refine yg0 rfl rfl rfl rfl ?_
           refine yg0 rfl rfl rfl rfl ?_
           refine yg0 rfl rfl rfl rfl ?_
           refine yg0 rfl rfl rfl rfl ?_
           refine y (ev_pick0 rfl rfl) rfl ?_
           refine y (ev_move rfl) rfl ?_
           refine yg0 rfl rfl rfl rfl ?_
           refine yg0 rfl rfl rfl rfl ?_
           refine yg0 rfl rfl rfl rfl ?_
           refine yg0 rfl rfl rfl rfl ?_
           refine y (ev_pick0 rfl rfl) rfl ?_
           refine ynil' (kthn (hK17 _ _ ?_))
           clear hK17
           refine ccond0 rfl ?_
           refine cskip' (kthn ?_)
           first
             | exact ksub zsub zge (hJr11 _ hfa)
             | (have hfa := hbad (by unfold BadF; first | omega | (simp_all; done)); exact ksub zsub zge (hJr11 _ hfa))
         ·(try simp only [sH] at h94)
          refine yg0 rfl rfl rfl rfl ?_
          refine yg0 rfl rfl rfl rfl ?_
          refine yg0 rfl rfl rfl rfl ?_
          refine yg0 rfl rfl rfl rfl ?_
          refine y (ev_pick0 rfl rfl) rfl ?_
          refine y (ev_move rfl) rfl ?_
          refine yg0 rfl rfl rfl rfl ?_
          refine yg0 rfl rfl rfl rfl ?_
          refine yg0 rfl rfl rfl rfl ?_
          refine yg0 rfl rfl rfl rfl ?_
          refine y (ev_pick0 rfl rfl) rfl ?_
          refine y (ev_move rfl) rfl ?_
          refine yg0 rfl rfl rfl rfl ?_
          refine yg0 rfl rfl rfl rfl ?_
          refine yg0 rfl rfl rfl rfl ?_
          refine yg0 rfl rfl rfl rfl ?_
          refine y (ev_pick0 rfl rfl) rfl ?_
          refine y (ev_move rfl) rfl ?_
          refine yg0 rfl rfl rfl rfl ?_
          refine yg0 rfl rfl rfl rfl ?_
          refine yg0 rfl rfl rfl rfl ?_
          refine yg0 rfl rfl rfl rfl ?_
          refine y (ev_pick0 rfl rfl) rfl ?_
          refine ynil' (kthn (hK17 _ _ ?_))
          clear hK17
          refine ccond0 rfl ?_
          refine cskip' (kthn ?_)
          first
            | exact ksub zsub zge (hJr11 _ hfa)
            | (have hfa := hbad (by unfold BadF; first | omega | (simp_all; done)); exact ksub zsub zge (hJr11 _ hfa))
        ·(try simp only [sH] at h87)
         refine yg0 rfl rfl rfl rfl ?_
         refine yg0 rfl rfl rfl rfl ?_
         refine yg0 rfl rfl rfl rfl ?_
         refine yg0 rfl rfl rfl rfl ?_
         refine y (ev_pick0 rfl rfl) rfl ?_
         refine y (ev_move rfl) rfl ?_
         refine yg0 rfl rfl rfl rfl ?_
         refine yg0 rfl rfl rfl rfl ?_
         refine yg0 rfl rfl rfl rfl ?_
         refine yg0 rfl rfl rfl rfl ?_
         refine y (ev_pick0 rfl rfl) rfl ?_
         refine y (ev_move rfl) rfl ?_
         refine yg0 rfl rfl rfl rfl ?_
         refine yg0 rfl rfl rfl rfl ?_
         refine yg0 rfl rfl rfl rfl ?_
         refine yg0 rfl rfl rfl rfl ?_
         refine y (ev_pick0 rfl rfl) rfl ?_
         refine y (ev_move rfl) rfl ?_
         refine yg0 rfl rfl rfl rfl ?_
         refine yg0 rfl rfl rfl rfl ?_
         refine yg0 rfl rfl rfl rfl ?_
         refine yg0 rfl rfl rfl rfl ?_
         refine y (ev_pick0 rfl rfl) rfl ?_
         refine y (ev_move rfl) rfl ?_
         refine yg0 rfl rfl rfl rfl ?_
         refine yg0 rfl rfl rfl rfl ?_
         refine yg0 rfl rfl rfl rfl ?_
         refine yg0 rfl rfl rfl rfl ?_
         refine y (ev_pick0 rfl rfl) rfl ?_
         refine ynil' (kthn (hK17 _ _ ?_))
         clear hK17
         refine ccond0 rfl ?_
         refine cskip' (kthn ?_)
         first
           | exact ksub zsub zge (hJr11 _ hfa)
           | (have hfa := hbad (by unfold BadF; first | omega | (simp_all; done)); exact ksub zsub zge (hJr11 _ hfa))
       ·(try simp only [sH] at h80)
        refine yg0 rfl rfl rfl rfl ?_
        refine yg0 rfl rfl rfl rfl ?_
        refine yg0 rfl rfl rfl rfl ?_
        refine yg0 rfl rfl rfl rfl ?_
        refine y (ev_pick0 rfl rfl) rfl ?_
        refine y (ev_move rfl) rfl ?_
        refine yg0 rfl rfl rfl rfl ?_
        refine yg0 rfl rfl rfl rfl ?_
        refine yg0 rfl rfl rfl rfl ?_
        refine yg0 rfl rfl rfl rfl ?_
        refine y (ev_pick0 rfl rfl) rfl ?_
        refine y (ev_move rfl) rfl ?_
        refine yg0 rfl rfl rfl rfl ?_
        refine yg0 rfl rfl rfl rfl ?_
        refine yg0 rfl rfl rfl rfl ?_
        refine yg0 rfl rfl rfl rfl ?_
        refine y (ev_pick0 rfl rfl) rfl ?_
        refine y (ev_move rfl) rfl ?_
        refine yg0 rfl rfl rfl rfl ?_
        refine yg0 rfl rfl rfl rfl ?_
        refine yg0 rfl rfl rfl rfl ?_
        refine yg0 rfl rfl rfl rfl ?_
        refine y (ev_pick0 rfl rfl) rfl ?_
        refine y (ev_move rfl) rfl ?_
        refine yg0 rfl rfl rfl rfl ?_
        refine yg0 rfl rfl rfl rfl ?_
        refine yg0 rfl rfl rfl rfl ?_
        refine yg0 rfl rfl rfl rfl ?_
        refine y (ev_pick0 rfl rfl) rfl ?_
        refine y (ev_move rfl) rfl ?_
        refine yg0 rfl rfl rfl rfl ?_
        refine yg0 rfl rfl rfl rfl ?_
        refine yg0 rfl rfl rfl rfl ?_
        refine yg0 rfl rfl rfl rfl ?_
        refine y (ev_pick0 rfl rfl) rfl ?_
        refine ynil' (kthn (hK17 _ _ ?_))
        clear hK17
        refine ccond0 rfl ?_
        refine cskip' (kthn ?_)
        first
          | exact ksub zsub zge (hJr11 _ hfa)
          | (have hfa := hbad (by unfold BadF; first | omega | (simp_all; done)); exact ksub zsub zge (hJr11 _ hfa))
      ·(try simp only [sH] at h73)
       refine yg0 rfl rfl rfl rfl ?_
       refine yg0 rfl rfl rfl rfl ?_
       refine yg0 rfl rfl rfl rfl ?_
       refine yg0 rfl rfl rfl rfl ?_
       refine y (ev_pick0 rfl rfl) rfl ?_
       refine y (ev_move rfl) rfl ?_
       refine yg0 rfl rfl rfl rfl ?_
       refine yg0 rfl rfl rfl rfl ?_
       refine yg0 rfl rfl rfl rfl ?_
       refine yg0 rfl rfl rfl rfl ?_
       refine y (ev_pick0 rfl rfl) rfl ?_
       refine y (ev_move rfl) rfl ?_
       refine yg0 rfl rfl rfl rfl ?_
       refine yg0 rfl rfl rfl rfl ?_
       refine yg0 rfl rfl rfl rfl ?_
       refine yg0 rfl rfl rfl rfl ?_
       refine y (ev_pick0 rfl rfl) rfl ?_
       refine y (ev_move rfl) rfl ?_
       refine yg0 rfl rfl rfl rfl ?_
       refine yg0 rfl rfl rfl rfl ?_
       refine yg0 rfl rfl rfl rfl ?_
       refine yg0 rfl rfl rfl rfl ?_
       refine y (ev_pick0 rfl rfl) rfl ?_
       refine y (ev_move rfl) rfl ?_
       refine yg0 rfl rfl rfl rfl ?_
       refine yg0 rfl rfl rfl rfl ?_
       refine yg0 rfl rfl rfl rfl ?_
       refine yg0 rfl rfl rfl rfl ?_
       refine y (ev_pick0 rfl rfl) rfl ?_
       refine y (ev_move rfl) rfl ?_
       refine yg0 rfl rfl rfl rfl ?_
       refine yg0 rfl rfl rfl rfl ?_
       refine yg0 rfl rfl rfl rfl ?_
       refine yg0 rfl rfl rfl rfl ?_
       refine y (ev_pick0 rfl rfl) rfl ?_
       refine y (ev_move rfl) rfl ?_
       refine yg0 rfl rfl rfl rfl ?_
       refine yg0 rfl rfl rfl rfl ?_
       refine yg0 rfl rfl rfl rfl ?_
       refine yg0 rfl rfl rfl rfl ?_
       refine y (ev_pick0 rfl rfl) rfl ?_
       refine ynil' (kthn (hK17 _ _ ?_))
       clear hK17
       refine ccond0 rfl ?_
       refine cskip' (kthn ?_)
       first
         | exact ksub zsub zge (hJr11 _ hfa)
         | (have hfa := hbad (by unfold BadF; first | omega | (simp_all; done)); exact ksub zsub zge (hJr11 _ hfa))
     ·(try simp only [sH] at h67)
      refine yg0 rfl rfl rfl rfl ?_
      refine yg0 rfl rfl rfl rfl ?_
      refine yg0 rfl rfl rfl rfl ?_
      refine y (ev_pick0 rfl rfl) rfl ?_
      refine y (ev_move rfl) rfl ?_
      refine yg0 rfl rfl rfl rfl ?_
      refine yg0 rfl rfl rfl rfl ?_
      refine yg0 rfl rfl rfl rfl ?_
      refine yg0 rfl rfl rfl rfl ?_
      refine y (ev_pick0 rfl rfl) rfl ?_
      refine y (ev_move rfl) rfl ?_
      refine yg0 rfl rfl rfl rfl ?_
      refine yg0 rfl rfl rfl rfl ?_
      refine yg0 rfl rfl rfl rfl ?_
      refine yg0 rfl rfl rfl rfl ?_
      refine y (ev_pick0 rfl rfl) rfl ?_
      refine y (ev_move rfl) rfl ?_
      refine yg0 rfl rfl rfl rfl ?_
      refine yg0 rfl rfl rfl rfl ?_
      refine yg0 rfl rfl rfl rfl ?_
      refine yg0 rfl rfl rfl rfl ?_
      refine y (ev_pick0 rfl rfl) rfl ?_
      refine y (ev_move rfl) rfl ?_
      refine yg0 rfl rfl rfl rfl ?_
      refine yg0 rfl rfl rfl rfl ?_
      refine yg0 rfl rfl rfl rfl ?_
      refine yg0 rfl rfl rfl rfl ?_
      refine y (ev_pick0 rfl rfl) rfl ?_
      refine y (ev_move rfl) rfl ?_
      refine yg0 rfl rfl rfl rfl ?_
      refine yg0 rfl rfl rfl rfl ?_
      refine yg0 rfl rfl rfl rfl ?_
      refine yg0 rfl rfl rfl rfl ?_
      refine y (ev_pick0 rfl rfl) rfl ?_
      refine y (ev_move rfl) rfl ?_
      refine yg0 rfl rfl rfl rfl ?_
      refine yg0 rfl rfl rfl rfl ?_
      refine yg0 rfl rfl rfl rfl ?_
      refine yg0 rfl rfl rfl rfl ?_
      refine y (ev_pick0 rfl rfl) rfl ?_
      refine y (ev_move rfl) rfl ?_
      refine yg0 rfl rfl rfl rfl ?_
      refine yg0 rfl rfl rfl rfl ?_
      refine yg0 rfl rfl rfl rfl ?_
      refine yg0 rfl rfl rfl rfl ?_
      refine y (ev_pick0 rfl rfl) rfl ?_
      refine ynil' (kthn (hK17 _ _ ?_))
      clear hK17
      refine ccond0 rfl ?_
      refine cskip' (kthn ?_)
      first
        | exact ksub zsub zge (hJr11 _ hfa)
        | (have hfa := hbad (by unfold BadF; first | omega | (simp_all; done)); exact ksub zsub zge (hJr11 _ hfa))
    ·(try simp only [sH] at h61)
     refine yg0 rfl rfl rfl rfl ?_
     refine yg0 rfl rfl rfl rfl ?_
     refine yg0 rfl rfl rfl rfl ?_
     refine y (ev_pick0 rfl rfl) rfl ?_
     refine y (ev_move rfl) rfl ?_
     refine yg0 rfl rfl rfl rfl ?_
     refine yg0 rfl rfl rfl rfl ?_
     refine yg0 rfl rfl rfl rfl ?_
     refine y (ev_pick0 rfl rfl) rfl ?_
     refine y (ev_move rfl) rfl ?_
     refine yg0 rfl rfl rfl rfl ?_
     refine yg0 rfl rfl rfl rfl ?_
     refine yg0 rfl rfl rfl rfl ?_
     refine yg0 rfl rfl rfl rfl ?_
     refine y (ev_pick0 rfl rfl) rfl ?_
     refine y (ev_move rfl) rfl ?_
     refine yg0 rfl rfl rfl rfl ?_
     refine yg0 rfl rfl rfl rfl ?_
     refine yg0 rfl rfl rfl rfl ?_
     refine yg0 rfl rfl rfl rfl ?_
     refine y (ev_pick0 rfl rfl) rfl ?_
     refine y (ev_move rfl) rfl ?_
     refine yg0 rfl rfl rfl rfl ?_
     refine yg0 rfl rfl rfl rfl ?_
     refine yg0 rfl rfl rfl rfl ?_
     refine yg0 rfl rfl rfl rfl ?_
     refine y (ev_pick0 rfl rfl) rfl ?_
     refine y (ev_move rfl) rfl ?_
     refine yg0 rfl rfl rfl rfl ?_
     refine yg0 rfl rfl rfl rfl ?_
     refine yg0 rfl rfl rfl rfl ?_
     refine yg0 rfl rfl rfl rfl ?_
     refine y (ev_pick0 rfl rfl) rfl ?_
     refine y (ev_move rfl) rfl ?_
     refine yg0 rfl rfl rfl rfl ?_
     refine yg0 rfl rfl rfl rfl ?_
     refine yg0 rfl rfl rfl rfl ?_
     refine yg0 rfl rfl rfl rfl ?_
     refine y (ev_pick0 rfl rfl) rfl ?_
     refine y (ev_move rfl) rfl ?_
     refine yg0 rfl rfl rfl rfl ?_
     refine yg0 rfl rfl rfl rfl ?_
     refine yg0 rfl rfl rfl rfl ?_
     refine yg0 rfl rfl rfl rfl ?_
     refine y (ev_pick0 rfl rfl) rfl ?_
     refine y (ev_move rfl) rfl ?_
     refine yg0 rfl rfl rfl rfl ?_
     refine yg0 rfl rfl rfl rfl ?_
     refine yg0 rfl rfl rfl rfl ?_
     refine yg0 rfl rfl rfl rfl ?_
     refine y (ev_pick0 rfl rfl) rfl ?_
     refine ynil' (kthn (hK17 _ _ ?_))
     clear hK17
     refine ccond0 rfl ?_
     refine cskip' (kthn ?_)
     first
       | exact ksub zsub zge (hJr11 _ hfa)
       | (have hfa := hbad (by unfold BadF; first | omega | (simp_all; done)); exact ksub zsub zge (hJr11 _ hfa))
end W
end Go.Proofs
