/- A part of the proof: contracts and plain lemmas, each without conditions beyond those that it names. -/
import Derived.Test.YtebijajimmjknaaGreatZ3
set_option linter.unusedVariables false
set_option linter.unusedSimpArgs false
set_option linter.constructorNameAsVariable false
namespace Go.Proofs
open Go Go.Sl
namespace W
set_option linter.unusedVariables false
def KXOpen (E : RDev) (a b wait : Int) (p la : Nat) (u : Value) (L' : List Seg) : Prop :=
  (witER E a b wait ≠ 0 ∧ u = .tuple #[nilP, i64 (witER E a b wait)] ∧ L' = [rdev p la E]) ∨ (witER E a b wait = 0 ∧ ∃ s c lb, u = .tuple #[ptr s, i64 0] ∧ L' = [rwS s c (lsV lb) (witOR E a b wait), rwL lb (witOR E a b wait).f, rcelP c p (openCR E a b), rdev p la E])
set_option maxRecDepth 4000 in
set_option maxHeartbeats 2000000 in
theorem xOpen [Env] {R : List Seg} {p la : Nat} {E : RDev} {a b wait : Int} (hE : E.ok) (hlen : ∀ i : Int, 0 ≤ i → i < E.l.length → (E.sec i).length = 144) (htx : openER E a b = 0 → (openCR E a b).text.length ≤ 1000) :
    Con Tryz.prog 9 [ptr p, i64 a, i64 b, i64 wait] [rdev p la E] R (KXOpen E a b wait p la) := by
  refine con_enter Tryz.func9 Tryz.ntmps9 rfl rfl ?_
  refine cseq ?_; intro K1 hK1
  refine creg ?_
  refine y (ev_assign rfl) rfl ?_
  refine y (ev_assign rfl) rfl ?_
  refine ynil' (kthn (hK1 _ _ ?_))
  clear hK1
  refine cseq ?_; intro K2 hK2
  refine cseq ?_; intro K3 hK3
  refine creg ?_
  refine y (ev_move rfl) rfl ?_
  refine y (ev_lss rfl rfl) rfl ?_
  refine y (ev_move rfl) rfl ?_
  refine ysplit 18 rfl (fun h6 => ?_) (fun h6 => ?_)
  ·(try simp only [sH] at h6)
   refine yg0 rfl rfl rfl rfl ?_
   refine yg0 rfl rfl rfl rfl ?_
   refine y (ev_pick1 rfl rfl) rfl ?_
   refine ynil' (kthn (hK3 _ _ ?_))
   clear hK3
   refine ccond1 rfl ?_
   refine cseq ?_; intro K4 hK4
   refine creg ?_
   have hwe : witER E a b wait = 1 := by unfold witER; rw [if_pos (Bool.eq_false_iff.2 fun hq => by have hq := within3_iff.1 hq; omega)]
   refine y (ev_assign rfl) rfl ?_
   refine y (ev_assign rfl) rfl ?_
   refine ynil' (kthn (hK4 _ _ ?_))
   clear hK4
   refine cret (kthr ?_)
   first
     | (exfalso; omega; done)
     | (refine kretv2 Tryz.results9 rfl rfl (L1 := [rdev p la E] ++ R) zge ?_
        exact ⟨_, .inl ⟨by rw [hwe]; first | decide | assumption, by rw [hwe], rfl⟩, rfl⟩)
  ·(try simp only [sH] at h6)
   refine yg1 rfl rfl ?_
   refine y (ev_move rfl) rfl ?_
   refine yg1 rfl rfl ?_
   refine y (ev_gtr rfl rfl) rfl ?_
   refine y (ev_pick0 rfl rfl) rfl ?_
   refine ynil' (kthn (hK3 _ _ ?_))
   clear hK3
   refine ccond rfl (fun h13 => ?_) (fun h13 => ?_)
   ·(try simp only [sH] at h13)
    refine cseq ?_; intro K5 hK5
    refine creg ?_
    have hwe : witER E a b wait = 1 := by unfold witER; rw [if_pos (Bool.eq_false_iff.2 fun hq => by have hq := within3_iff.1 hq; omega)]
    refine y (ev_assign rfl) rfl ?_
    refine y (ev_assign rfl) rfl ?_
    refine ynil' (kthn (hK5 _ _ ?_))
    clear hK5
    refine cret (kthr ?_)
    first
      | (exfalso; omega; done)
      | (refine kretv2 Tryz.results9 rfl rfl (L1 := [rdev p la E] ++ R) zge ?_
         exact ⟨_, .inl ⟨by rw [hwe]; first | decide | assumption, by rw [hwe], rfl⟩, rfl⟩)
   ·(try simp only [sH] at h13)
    refine cskip' (kthn (hK2 _ _ ?_))
    clear hK2
    refine cseq ?_; intro K6 hK6
    refine creg ?_
    have hwin : within3 wait 1 1099511627776 = true := within3_iff.2 (by omega)
    have hwe : witER E a b wait = openER E a b := by unfold witER; rw [if_neg (by rw [hwin]; decide)]
    refine y (ev_move rfl) rfl ?_
    refine y (ev_move rfl) rfl ?_
    refine y (ev_move rfl) rfl ?_
    refine ycall (rcOpen hE hlen) rfl Tryz.call44 ztk rfl ?_
    rintro v L' hop
    rcases hop with ⟨he0, rfl, rfl⟩ | ⟨he0, c26, rfl, rfl⟩
    ·skip
     refine y (ev_move rfl) rfl ?_
     refine y (ev_extract rfl rfl) rfl ?_
     refine y (ev_extract rfl rfl) rfl ?_
     refine y (ev_assign rfl) rfl ?_
     refine y (ev_assign rfl) rfl ?_
     refine ynil' (kthn (hK6 _ _ ?_))
     clear hK6
     refine cseq ?_; intro K7 hK7
     refine cseq ?_; intro K8 hK8
     refine creg ?_
     refine y (ev_move rfl) rfl ?_
     refine y (ev_neq rfl rfl) rfl ?_
     try rw [show (!decide (openER E a b = 0)) = true by simp [he0]]
     refine ynil' (kthn (hK8 _ _ ?_))
     clear hK8
     refine ccond1 rfl ?_
     refine cseq ?_; intro K9 hK9
     refine creg ?_
     refine y (ev_move rfl) rfl ?_
     refine y (ev_assign rfl) rfl ?_
     refine y (ev_assign rfl) rfl ?_
     refine ynil' (kthn (hK9 _ _ ?_))
     clear hK9
     refine cret (kthr ?_)
     first
       | (exfalso; omega; done)
       | (refine kretv2 Tryz.results9 rfl rfl (L1 := [rdev p la E] ++ R) zge ?_
          exact ⟨_, .inl ⟨by rw [hwe]; first | decide | assumption, by rw [hwe], rfl⟩, rfl⟩)
    ·skip
     refine y (ev_move rfl) rfl ?_
     refine y (ev_extract rfl rfl) rfl ?_
     refine y (ev_extract rfl rfl) rfl ?_
     refine y (ev_assign rfl) rfl ?_
     refine y (ev_assign rfl) rfl ?_
     refine ynil' (kthn (hK6 _ _ ?_))
     clear hK6
     refine cseq ?_; intro K10 hK10
     refine cseq ?_; intro K11 hK11
     refine creg ?_
     refine y (ev_move rfl) rfl ?_
     refine y (ev_neq rfl rfl) rfl ?_
     try rw [show (!decide (openER E a b = 0)) = true by simp [he0]]
     refine ynil' (kthn (hK11 _ _ ?_))
     clear hK11
     refine ccond0 rfl ?_
     refine cskip' (kthn (hK10 _ _ ?_))
     clear hK10
     refine cseq ?_; intro K12 hK12
     refine creg ?_
     have hcl := htx he0
     refine y (ev_move rfl) rfl ?_
     refine ya (ac_bsliceR (vs := [i64 (-1), i64 (-1)]) rfl Tryz.underlying53 Tryz.sizeOf2 Tryz.zeroValue2 rfl rfl rfl rfl ⟨⟨_, _, rfl, (by first | rfl | simp), (by first | decide | simp)⟩, ⟨⟨_, _, rfl, (by first | rfl | simp), (by first | decide | simp)⟩, trivial⟩⟩ (by dsimp [fillL, splice, vcells, reps] <;> rfl)) rfl ?_
     rintro v L' ⟨b33, rfl, rfl⟩
     have hpos : 1 ≤ 1 := Nat.le_refl _
     refine y (ev_move rfl) rfl ?_
     refine y (ev_move rfl) rfl ?_
     refine y (ev_build (vs := [ptr c26, i64 0, i64 (-1), i64 3, i64 0, lsV b33, i64 wait, i64 wait]) (zs := _) rfl Tryz.underlying55 Tryz.zeroValue55 rfl (.cons Tryz.sizeOf52 (.cons Tryz.sizeOf2 (.cons Tryz.sizeOf3 (.cons Tryz.sizeOf3 (.cons Tryz.sizeOf2 (.cons Tryz.sizeOf53 (.cons Tryz.sizeOf2 (.cons Tryz.sizeOf2 .nil)))))))) ⟨⟨_, _, rfl, (by first | rfl | simp), (by first | decide | simp)⟩, ⟨⟨_, _, rfl, (by first | rfl | simp), (by first | decide | simp)⟩, ⟨⟨_, _, rfl, (by first | rfl | simp), (by first | decide | simp)⟩, ⟨⟨_, _, rfl, (by first | rfl | simp), (by first | decide | simp)⟩, ⟨⟨_, _, rfl, (by first | rfl | simp), (by first | decide | simp)⟩, ⟨⟨_, _, rfl, (by first | rfl | simp), (by first | decide | simp)⟩, trivial⟩⟩⟩⟩⟩⟩ (by dsimp [fillL, splice, vcells] <;> rfl)) rfl ?_
     refine ya (ac_box (vs := [ptr c26, i64 0, i64 (-1), i64 3, i64 0, lsV b33, i64 wait, i64 wait]) rfl rfl) rfl ?_
     rintro v L' ⟨b37, rfl, rfl⟩
     refine y (ev_assign rfl) rfl ?_
     refine ynil' (kthn (hK12 _ _ ?_))
     clear hK12
     refine cseq ?_; intro K13 hK13
     refine creg ?_
     refine y (ev_move rfl) rfl ?_
     refine y (ev_nil rfl) rfl ?_
     refine y (ev_fieldAddr 5 rfl Tryz.underlying108 rfl Tryz.sizeOf9) rfl ?_
     refine y (ev_load rfl Tryz.isAgg9 zin rfl) rfl ?_
     refine ya (ac_toBytesY rfl Tryz.underlying9 Tryz.underlying50 Tryz.underlying5) rfl ?_
     rintro v L' ⟨b43, c43, sp43, fr43, rfl, hc43, rfl⟩
     refine ycall (rDecode (bs := (openCR E a b).text) ?hb49 ?len49) rfl Tryz.call45 ztk rfl ?_
     case hb49 => exact rdY_in zin hc43
     case len49 => omega
     rintro v L' ⟨sn44, st44, rfl, ok44, rfl⟩
     obtain ⟨hbad, hgood⟩ := @facts_dich (openCR E a b).text
     generalize decM (openCR E a b).text = de at *
     obtain ⟨rc, er⟩ := de
     dsimp only at hbad hgood ok44 ⊢
     have okn := ok44.n
     have okt := ok44.t
     unfold recV
     have hvt : RdV [svSeg st44 9 (strsV rc.texts)] (svVal st44 rc.texts.length) rc.texts.length (strsV rc.texts) := rdV_sv .z okt
     have hvn : RdV [svSeg sn44 2 (intsV rc.nums)] (svVal sn44 rc.nums.length) rc.nums.length (intsV rc.nums) := rdV_sv .z okn
     refine y (ev_move rfl) rfl ?_
     refine y (ev_extract rfl rfl) rfl ?_
     refine y (ev_extract rfl rfl) rfl ?_
     refine ya (ac_alloc Tryz.zeroValue100 rfl) rfl ?_
     rintro v L' ⟨b13, rfl, rfl⟩
     refine ya0 (ac_storeAll rfl rfl (by first | exact bytesV_one _ | (simp [Value.oneCell']; done) | (simp only [List.forall_mem_cons, List.not_mem_nil, false_implies, implies_true, svVal_one, and_true, true_and, and_self]; first | done | simp [Value.oneCell'])) Tryz.sizeOf100 zrp (by first | rfl | assumption | (simp [*]; done) | (simp [*]; omega)) (by first | rfl | assumption | (simp [*]; done) | (simp [*]; omega))) ?_
     rintro v L' ⟨rfl, rfl⟩
     refine y (ev_assign rfl) rfl ?_
     refine ynil' (kthn (hK13 _ _ ?_))
     clear hK13
     refine cseq ?_; intro K14 hK14
     refine cseq ?_; intro K15 hK15
     refine creg ?_
     refine y (ev_move rfl) rfl ?_
     refine y (ev_neq rfl rfl) rfl ?_
     refine y (ev_move rfl) rfl ?_
     refine ysplit 49 rfl (fun h59 => ?_) (fun h59 => ?_)
     ·(try simp only [sH] at h59)
      refine yg0 rfl rfl rfl rfl ?_
      refine yg0 rfl rfl rfl rfl ?_
      refine yg0 rfl rfl rfl rfl ?_
      refine y (ev_pick1 rfl rfl) rfl ?_
      refine y (ev_move rfl) rfl ?_
      refine yg0 rfl rfl rfl rfl ?_
      refine yg0 rfl rfl rfl rfl ?_
      refine yg0 rfl rfl rfl rfl ?_
      refine yg0 rfl rfl rfl rfl ?_
      refine y (ev_pick1 rfl rfl) rfl ?_
      refine y (ev_move rfl) rfl ?_
      refine yg0 rfl rfl rfl rfl ?_
      refine yg0 rfl rfl rfl rfl ?_
      refine yg0 rfl rfl rfl rfl ?_
      refine yg0 rfl rfl rfl rfl ?_
      refine y (ev_pick1 rfl rfl) rfl ?_
      refine ynil' (kthn (hK15 _ _ ?_))
      clear hK15
      refine ccond1 rfl ?_
      refine cseq ?_; intro K16 hK16
      refine creg ?_
      have hfa := hbad (bad_of (by omega))
      refine y (ev_move rfl) rfl ?_
      refine y (ev_assign rfl) rfl ?_
      refine y (ev_assign rfl) rfl ?_
      refine ynil' (kthn (hK16 _ _ ?_))
      clear hK16
      refine cret (kthr ?_)
      first
        | (exfalso; omega; done)
        | (refine kretv2 Tryz.results9 rfl rfl (L1 := [sc b37 _ 55, sc b33 _ 2, rcelP c26 p (openCR E a b), rdev p la E] ++ R) zge ?_
           exact ⟨_, .inr ⟨by rw [hwe]; exact he0, b37, c26, b33, rfl, by unfold witOR; rw [hfa]; rfl⟩, rfl⟩)
     ·(try simp only [sH] at h59)
      refine yg1 rfl rfl ?_
      refine y (ev_fieldAddr 0 rfl Tryz.underlying100 rfl Tryz.sizeOf3) rfl ?_
      refine yg1 rfl rfl ?_
      refine y (ev_load rfl Tryz.isAgg3 zin rfl) rfl ?_
      refine yg1 rfl rfl ?_
      refine y (ev_neq rfl rfl) rfl ?_
      refine y (ev_pick0 rfl rfl) rfl ?_
      refine y (ev_move rfl) rfl ?_
      refine ysplit 54 rfl (fun h73 => ?_) (fun h73 => ?_)
      ·(try simp only [sH] at h73)
       refine yg0 rfl rfl rfl rfl ?_
       refine yg0 rfl rfl rfl rfl ?_
       refine yg0 rfl rfl rfl rfl ?_
       refine yg0 rfl rfl rfl rfl ?_
       refine y (ev_pick1 rfl rfl) rfl ?_
       refine y (ev_move rfl) rfl ?_
       refine yg0 rfl rfl rfl rfl ?_
       refine yg0 rfl rfl rfl rfl ?_
       refine yg0 rfl rfl rfl rfl ?_
       refine yg0 rfl rfl rfl rfl ?_
       refine y (ev_pick1 rfl rfl) rfl ?_
       refine ynil' (kthn (hK15 _ _ ?_))
       clear hK15
       refine ccond1 rfl ?_
       refine cseq ?_; intro K17 hK17
       refine creg ?_
       have hfa := hbad (bad_of (by omega))
       refine y (ev_move rfl) rfl ?_
       refine y (ev_assign rfl) rfl ?_
       refine y (ev_assign rfl) rfl ?_
       refine ynil' (kthn (hK17 _ _ ?_))
       clear hK17
       refine cret (kthr ?_)
       first
         | (exfalso; omega; done)
         | (refine kretv2 Tryz.results9 rfl rfl (L1 := [sc b37 _ 55, sc b33 _ 2, rcelP c26 p (openCR E a b), rdev p la E] ++ R) zge ?_
            exact ⟨_, .inr ⟨by rw [hwe]; exact he0, b37, c26, b33, rfl, by unfold witOR; rw [hfa]; rfl⟩, rfl⟩)
      ·(try simp only [sH] at h73)
       refine yg1 rfl rfl ?_
       refine y (ev_fieldAddr 1 rfl Tryz.underlying100 rfl Tryz.sizeOf53) rfl ?_
       refine yg1 rfl rfl ?_
       refine y (ev_load rfl Tryz.isAgg53 zin rfl) rfl ?_
       refine yg1 rfl rfl ?_
       first
         | refine y (ev_len rfl Tryz.underlying53) rfl ?_
         | refine y (ev_lenSv rfl Tryz.underlying53 (by assumption)) rfl ?_
         | refine y (ev_lenV rfl Tryz.underlying53 (RdV.lenVal (by assumption))) rfl ?_
         | refine y (ev_lenV rfl Tryz.underlying53 (RdB.lenVal (by assumption))) rfl ?_
       refine yg1 rfl rfl ?_
       refine y (ev_neq rfl rfl) rfl ?_
       refine y (ev_pick0 rfl rfl) rfl ?_
       refine y (ev_move rfl) rfl ?_
       refine ysplit 60 rfl (fun h86 => ?_) (fun h86 => ?_)
       ·(try simp only [sH] at h86)
        refine yg0 rfl rfl rfl rfl ?_
        refine yg0 rfl rfl rfl rfl ?_
        refine yg0 rfl rfl rfl rfl ?_
        refine yg0 rfl rfl rfl rfl ?_
        refine y (ev_pick1 rfl rfl) rfl ?_
        refine ynil' (kthn (hK15 _ _ ?_))
        clear hK15
        refine ccond1 rfl ?_
        refine cseq ?_; intro K18 hK18
        refine creg ?_
        have hfa := hbad (bad_of (by omega))
        refine y (ev_move rfl) rfl ?_
        refine y (ev_assign rfl) rfl ?_
        refine y (ev_assign rfl) rfl ?_
        refine ynil' (kthn (hK18 _ _ ?_))
        clear hK18
        refine cret (kthr ?_)
        first
          | (exfalso; omega; done)
          | (refine kretv2 Tryz.results9 rfl rfl (L1 := [sc b37 _ 55, sc b33 _ 2, rcelP c26 p (openCR E a b), rdev p la E] ++ R) zge ?_
             exact ⟨_, .inr ⟨by rw [hwe]; exact he0, b37, c26, b33, rfl, by unfold witOR; rw [hfa]; rfl⟩, rfl⟩)
       ·(try simp only [sH] at h86)
        refine yg1 rfl rfl ?_
        refine y (ev_fieldAddr 2 rfl Tryz.underlying100 rfl Tryz.sizeOf98) rfl ?_
        refine yg1 rfl rfl ?_
        refine y (ev_load rfl Tryz.isAgg98 zin rfl) rfl ?_
        refine yg1 rfl rfl ?_
        first
          | refine y (ev_len rfl Tryz.underlying98) rfl ?_
          | refine y (ev_lenSv rfl Tryz.underlying98 (by assumption)) rfl ?_
          | refine y (ev_lenV rfl Tryz.underlying98 (RdV.lenVal (by assumption))) rfl ?_
          | refine y (ev_lenV rfl Tryz.underlying98 (RdB.lenVal (by assumption))) rfl ?_
        refine yg1 rfl rfl ?_
        refine y (ev_neq rfl rfl) rfl ?_
        refine y (ev_pick0 rfl rfl) rfl ?_
        refine ynil' (kthn (hK15 _ _ ?_))
        clear hK15
        refine ccond rfl (fun h96 => ?_) (fun h96 => ?_)
        ·(try simp only [sH] at h96)
         refine cseq ?_; intro K19 hK19
         refine creg ?_
         have hfa := hbad (bad_of (by omega))
         refine y (ev_move rfl) rfl ?_
         refine y (ev_assign rfl) rfl ?_
         refine y (ev_assign rfl) rfl ?_
         refine ynil' (kthn (hK19 _ _ ?_))
         clear hK19
         refine cret (kthr ?_)
         first
           | (exfalso; omega; done)
           | (refine kretv2 Tryz.results9 rfl rfl (L1 := [sc b37 _ 55, sc b33 _ 2, rcelP c26 p (openCR E a b), rdev p la E] ++ R) zge ?_
              exact ⟨_, .inr ⟨by rw [hwe]; exact he0, b37, c26, b33, rfl, by unfold witOR; rw [hfa]; rfl⟩, rfl⟩)
        ·(try simp only [sH] at h96)
         refine cskip' (kthn (hK14 _ _ ?_))
         clear hK14
         refine cseq ?_; intro K20 hK20
         refine creg ?_
         have hq4 : er = 0 ∧ rc.kind = 40 ∧ (rc.nums.length : Int) = 6 ∧ (rc.texts.length : Int) = 0 := by omega
         refine y (ev_fieldAddr 1 rfl Tryz.underlying100 rfl Tryz.sizeOf53) rfl ?_
         refine y (ev_load rfl Tryz.isAgg53 zin rfl) rfl ?_
         refine y (ev_assign rfl) rfl ?_
         refine ynil' (kthn (hK20 _ _ ?_))
         clear hK20
         refine cseq ?_; intro K21 hK21
         refine cseq ?_; intro K22 hK22
         refine creg ?_
         refine y (ev_move rfl) rfl ?_
         refine y (ev_ixV hvn rfl rfl Tryz.underlying53 Tryz.sizeOf2 (by omega) (by omega)) rfl ?_
         refine y (ev_loadV 0 hvn zge rfl Tryz.isAgg2 rfl (intsV_get (getd_get (d := 0) (by omega)))) rfl ?_
         refine y (ev_lss rfl rfl) rfl ?_
         refine y (ev_move rfl) rfl ?_
         refine ysplit 73 rfl (fun h108 => ?_) (fun h108 => ?_)
         ·(try simp only [sH] at h108)
          refine yg0 rfl rfl rfl rfl ?_
          refine yg0 rfl rfl rfl rfl ?_
          refine yg0 rfl rfl rfl rfl ?_
          refine yg0 rfl rfl rfl rfl ?_
          refine y (ev_pick1 rfl rfl) rfl ?_
          refine y (ev_move rfl) rfl ?_
          refine yg0 rfl rfl rfl rfl ?_
          refine yg0 rfl rfl rfl rfl ?_
          refine yg0 rfl rfl rfl rfl ?_
          refine yg0 rfl rfl rfl rfl ?_
          refine y (ev_pick1 rfl rfl) rfl ?_
          refine y (ev_move rfl) rfl ?_
          refine yg0 rfl rfl rfl rfl ?_
          refine yg0 rfl rfl rfl rfl ?_
          refine yg0 rfl rfl rfl rfl ?_
          refine yg0 rfl rfl rfl rfl ?_
          refine y (ev_pick1 rfl rfl) rfl ?_
          refine y (ev_move rfl) rfl ?_
          refine yg0 rfl rfl rfl rfl ?_
          refine yg0 rfl rfl rfl rfl ?_
          refine yg0 rfl rfl rfl rfl ?_
          refine yg0 rfl rfl rfl rfl ?_
          refine y (ev_pick1 rfl rfl) rfl ?_
          refine y (ev_move rfl) rfl ?_
          refine yg0 rfl rfl rfl rfl ?_
          refine yg0 rfl rfl rfl rfl ?_
          refine yg0 rfl rfl rfl rfl ?_
          refine yg0 rfl rfl rfl rfl ?_
          refine y (ev_pick1 rfl rfl) rfl ?_
          refine y (ev_move rfl) rfl ?_
          refine yg0 rfl rfl rfl rfl ?_
          refine yg0 rfl rfl rfl rfl ?_
          refine yg0 rfl rfl rfl rfl ?_
          refine yg0 rfl rfl rfl rfl ?_
          refine y (ev_pick1 rfl rfl) rfl ?_
          refine y (ev_move rfl) rfl ?_
          refine yg0 rfl rfl rfl rfl ?_
          refine yg0 rfl rfl rfl rfl ?_
          refine yg0 rfl rfl rfl rfl ?_
          refine yg0 rfl rfl rfl rfl ?_
          refine y (ev_pick1 rfl rfl) rfl ?_
          refine ynil' (kthn (hK22 _ _ ?_))
          clear hK22
          refine ccond1 rfl ?_
          refine cseq ?_; intro K23 hK23
          refine creg ?_
          have hfa := hbad (bad_num (fun hp => by have a := hp.a; have b := hp.b; have c := hp.c; have d := hp.d; omega))
          refine y (ev_move rfl) rfl ?_
          refine y (ev_assign rfl) rfl ?_
          refine y (ev_assign rfl) rfl ?_
          refine ynil' (kthn (hK23 _ _ ?_))
          clear hK23
          refine cret (kthr ?_)
          first
            | (exfalso; omega; done)
            | (refine kretv2 Tryz.results9 rfl rfl (L1 := [sc b37 _ 55, sc b33 _ 2, rcelP c26 p (openCR E a b), rdev p la E] ++ R) zge ?_
               exact ⟨_, .inr ⟨by rw [hwe]; exact he0, b37, c26, b33, rfl, by unfold witOR; rw [hfa]; rfl⟩, rfl⟩)
         ·(try simp only [sH] at h108)
          refine yg1 rfl rfl ?_
          refine y (ev_move rfl) rfl ?_
          refine yg1 rfl rfl ?_
          refine y (ev_ixV hvn rfl rfl Tryz.underlying53 Tryz.sizeOf2 (by omega) (by omega)) rfl ?_
          refine yg1 rfl rfl ?_
          refine y (ev_loadV 0 hvn zge rfl Tryz.isAgg2 rfl (intsV_get (getd_get (d := 0) (by omega)))) rfl ?_
          refine yg1 rfl rfl ?_
          refine y (ev_gtr rfl rfl) rfl ?_
          refine y (ev_pick0 rfl rfl) rfl ?_
          refine y (ev_move rfl) rfl ?_
          refine ysplit 79 rfl (fun h131 => ?_) (fun h131 => ?_)
          ·(try simp only [sH] at h131)
           refine yg0 rfl rfl rfl rfl ?_
           refine yg0 rfl rfl rfl rfl ?_
           refine yg0 rfl rfl rfl rfl ?_
           refine yg0 rfl rfl rfl rfl ?_
           refine y (ev_pick1 rfl rfl) rfl ?_
           refine y (ev_move rfl) rfl ?_
           refine yg0 rfl rfl rfl rfl ?_
           refine yg0 rfl rfl rfl rfl ?_
           refine yg0 rfl rfl rfl rfl ?_
           refine yg0 rfl rfl rfl rfl ?_
           refine y (ev_pick1 rfl rfl) rfl ?_
           refine y (ev_move rfl) rfl ?_
           refine yg0 rfl rfl rfl rfl ?_
           refine yg0 rfl rfl rfl rfl ?_
           refine yg0 rfl rfl rfl rfl ?_
           refine yg0 rfl rfl rfl rfl ?_
           refine y (ev_pick1 rfl rfl) rfl ?_
           refine y (ev_move rfl) rfl ?_
           refine yg0 rfl rfl rfl rfl ?_
           refine yg0 rfl rfl rfl rfl ?_
           refine yg0 rfl rfl rfl rfl ?_
           refine yg0 rfl rfl rfl rfl ?_
           refine y (ev_pick1 rfl rfl) rfl ?_
           refine y (ev_move rfl) rfl ?_
           refine yg0 rfl rfl rfl rfl ?_
           refine yg0 rfl rfl rfl rfl ?_
           refine yg0 rfl rfl rfl rfl ?_
           refine yg0 rfl rfl rfl rfl ?_
           refine y (ev_pick1 rfl rfl) rfl ?_
           refine y (ev_move rfl) rfl ?_
           refine yg0 rfl rfl rfl rfl ?_
           refine yg0 rfl rfl rfl rfl ?_
           refine yg0 rfl rfl rfl rfl ?_
           refine yg0 rfl rfl rfl rfl ?_
           refine y (ev_pick1 rfl rfl) rfl ?_
           refine ynil' (kthn (hK22 _ _ ?_))
           clear hK22
           refine ccond1 rfl ?_
           refine cseq ?_; intro K24 hK24
           refine creg ?_
           have hfa := hbad (bad_num (fun hp => by have a := hp.a; have b := hp.b; have c := hp.c; have d := hp.d; omega))
           refine y (ev_move rfl) rfl ?_
           refine y (ev_assign rfl) rfl ?_
           refine y (ev_assign rfl) rfl ?_
           refine ynil' (kthn (hK24 _ _ ?_))
           clear hK24
           refine cret (kthr ?_)
           first
             | (exfalso; omega; done)
             | (refine kretv2 Tryz.results9 rfl rfl (L1 := [sc b37 _ 55, sc b33 _ 2, rcelP c26 p (openCR E a b), rdev p la E] ++ R) zge ?_
                exact ⟨_, .inr ⟨by rw [hwe]; exact he0, b37, c26, b33, rfl, by unfold witOR; rw [hfa]; rfl⟩, rfl⟩)
          ·(try simp only [sH] at h131)
           refine yg1 rfl rfl ?_
           refine y (ev_move rfl) rfl ?_
           refine yg1 rfl rfl ?_
           refine y (ev_ixV hvn rfl rfl Tryz.underlying53 Tryz.sizeOf2 (by omega) (by omega)) rfl ?_
           refine yg1 rfl rfl ?_
           refine y (ev_loadV 1 hvn zge rfl Tryz.isAgg2 rfl (intsV_get (getd_get (d := 0) (by omega)))) rfl ?_
           refine yg1 rfl rfl ?_
           refine y (ev_lss rfl rfl) rfl ?_
           refine y (ev_pick0 rfl rfl) rfl ?_
           refine y (ev_move rfl) rfl ?_
           refine ysplit 85 rfl (fun h152 => ?_) (fun h152 => ?_)
           ·(try simp only [sH] at h152)
            refine yg0 rfl rfl rfl rfl ?_
            refine yg0 rfl rfl rfl rfl ?_
            refine yg0 rfl rfl rfl rfl ?_
            refine yg0 rfl rfl rfl rfl ?_
            refine y (ev_pick1 rfl rfl) rfl ?_
            refine y (ev_move rfl) rfl ?_
            refine yg0 rfl rfl rfl rfl ?_
            refine yg0 rfl rfl rfl rfl ?_
            refine yg0 rfl rfl rfl rfl ?_
            refine yg0 rfl rfl rfl rfl ?_
            refine y (ev_pick1 rfl rfl) rfl ?_
            refine y (ev_move rfl) rfl ?_
            refine yg0 rfl rfl rfl rfl ?_
            refine yg0 rfl rfl rfl rfl ?_
            refine yg0 rfl rfl rfl rfl ?_
            refine yg0 rfl rfl rfl rfl ?_
            refine y (ev_pick1 rfl rfl) rfl ?_
            refine y (ev_move rfl) rfl ?_
            refine yg0 rfl rfl rfl rfl ?_
            refine yg0 rfl rfl rfl rfl ?_
            refine yg0 rfl rfl rfl rfl ?_
            refine yg0 rfl rfl rfl rfl ?_
            refine y (ev_pick1 rfl rfl) rfl ?_
            refine y (ev_move rfl) rfl ?_
            refine yg0 rfl rfl rfl rfl ?_
            refine yg0 rfl rfl rfl rfl ?_
            refine yg0 rfl rfl rfl rfl ?_
            refine yg0 rfl rfl rfl rfl ?_
            refine y (ev_pick1 rfl rfl) rfl ?_
            refine ynil' (kthn (hK22 _ _ ?_))
            clear hK22
            refine ccond1 rfl ?_
            refine cseq ?_; intro K25 hK25
            refine creg ?_
            have hfa := hbad (bad_num (fun hp => by have a := hp.a; have b := hp.b; have c := hp.c; have d := hp.d; omega))
            refine y (ev_move rfl) rfl ?_
            refine y (ev_assign rfl) rfl ?_
            refine y (ev_assign rfl) rfl ?_
            refine ynil' (kthn (hK25 _ _ ?_))
            clear hK25
            refine cret (kthr ?_)
            first
              | (exfalso; omega; done)
              | (refine kretv2 Tryz.results9 rfl rfl (L1 := [sc b37 _ 55, sc b33 _ 2, rcelP c26 p (openCR E a b), rdev p la E] ++ R) zge ?_
                 exact ⟨_, .inr ⟨by rw [hwe]; exact he0, b37, c26, b33, rfl, by unfold witOR; rw [hfa]; rfl⟩, rfl⟩)
           ·(try simp only [sH] at h152)
            refine yg1 rfl rfl ?_
            refine y (ev_move rfl) rfl ?_
            refine yg1 rfl rfl ?_
            refine y (ev_ixV hvn rfl rfl Tryz.underlying53 Tryz.sizeOf2 (by omega) (by omega)) rfl ?_
            refine yg1 rfl rfl ?_
            refine y (ev_loadV 1 hvn zge rfl Tryz.isAgg2 rfl (intsV_get (getd_get (d := 0) (by omega)))) rfl ?_
            refine yg1 rfl rfl ?_
            refine y (ev_gtr rfl rfl) rfl ?_
            refine y (ev_pick0 rfl rfl) rfl ?_
            refine y (ev_move rfl) rfl ?_
            refine ysplit 91 rfl (fun h171 => ?_) (fun h171 => ?_)
            ·(try simp only [sH] at h171)
             refine yg0 rfl rfl rfl rfl ?_
             refine yg0 rfl rfl rfl rfl ?_
             refine yg0 rfl rfl rfl rfl ?_
             refine yg0 rfl rfl rfl rfl ?_
             refine y (ev_pick1 rfl rfl) rfl ?_
             refine y (ev_move rfl) rfl ?_
             refine yg0 rfl rfl rfl rfl ?_
             refine yg0 rfl rfl rfl rfl ?_
             refine yg0 rfl rfl rfl rfl ?_
             refine yg0 rfl rfl rfl rfl ?_
             refine y (ev_pick1 rfl rfl) rfl ?_
             refine y (ev_move rfl) rfl ?_
             refine yg0 rfl rfl rfl rfl ?_
             refine yg0 rfl rfl rfl rfl ?_
             refine yg0 rfl rfl rfl rfl ?_
             refine yg0 rfl rfl rfl rfl ?_
             refine y (ev_pick1 rfl rfl) rfl ?_
             refine y (ev_move rfl) rfl ?_
             refine yg0 rfl rfl rfl rfl ?_
             refine yg0 rfl rfl rfl rfl ?_
             refine yg0 rfl rfl rfl rfl ?_
             refine yg0 rfl rfl rfl rfl ?_
             refine y (ev_pick1 rfl rfl) rfl ?_
             refine ynil' (kthn (hK22 _ _ ?_))
             clear hK22
             refine ccond1 rfl ?_
             refine cseq ?_; intro K26 hK26
             refine creg ?_
             have hfa := hbad (bad_num (fun hp => by have a := hp.a; have b := hp.b; have c := hp.c; have d := hp.d; omega))
             refine y (ev_move rfl) rfl ?_
             refine y (ev_assign rfl) rfl ?_
             refine y (ev_assign rfl) rfl ?_
             refine ynil' (kthn (hK26 _ _ ?_))
             clear hK26
             refine cret (kthr ?_)
             first
               | (exfalso; omega; done)
               | (refine kretv2 Tryz.results9 rfl rfl (L1 := [sc b37 _ 55, sc b33 _ 2, rcelP c26 p (openCR E a b), rdev p la E] ++ R) zge ?_
                  exact ⟨_, .inr ⟨by rw [hwe]; exact he0, b37, c26, b33, rfl, by unfold witOR; rw [hfa]; rfl⟩, rfl⟩)
            ·(try simp only [sH] at h171)
             refine yg1 rfl rfl ?_
             refine y (ev_move rfl) rfl ?_
             refine yg1 rfl rfl ?_
             refine y (ev_ixV hvn rfl rfl Tryz.underlying53 Tryz.sizeOf2 (by omega) (by omega)) rfl ?_
             refine yg1 rfl rfl ?_
             refine y (ev_loadV 2 hvn zge rfl Tryz.isAgg2 rfl (intsV_get (getd_get (d := 0) (by omega)))) rfl ?_
             refine yg1 rfl rfl ?_
             refine y (ev_lss rfl rfl) rfl ?_
             refine y (ev_pick0 rfl rfl) rfl ?_
             refine y (ev_move rfl) rfl ?_
             refine ysplit 97 rfl (fun h188 => ?_) (fun h188 => ?_)
             ·(try simp only [sH] at h188)
              refine yg0 rfl rfl rfl rfl ?_
              refine yg0 rfl rfl rfl rfl ?_
              refine yg0 rfl rfl rfl rfl ?_
              refine yg0 rfl rfl rfl rfl ?_
              refine y (ev_pick1 rfl rfl) rfl ?_
              refine y (ev_move rfl) rfl ?_
              refine yg0 rfl rfl rfl rfl ?_
              refine yg0 rfl rfl rfl rfl ?_
              refine yg0 rfl rfl rfl rfl ?_
              refine yg0 rfl rfl rfl rfl ?_
              refine y (ev_pick1 rfl rfl) rfl ?_
              refine y (ev_move rfl) rfl ?_
              refine yg0 rfl rfl rfl rfl ?_
              refine yg0 rfl rfl rfl rfl ?_
              refine yg0 rfl rfl rfl rfl ?_
              refine yg0 rfl rfl rfl rfl ?_
              refine y (ev_pick1 rfl rfl) rfl ?_
              refine ynil' (kthn (hK22 _ _ ?_))
              clear hK22
              refine ccond1 rfl ?_
              refine cseq ?_; intro K27 hK27
              refine creg ?_
              have hfa := hbad (bad_num (fun hp => by have a := hp.a; have b := hp.b; have c := hp.c; have d := hp.d; omega))
              refine y (ev_move rfl) rfl ?_
              refine y (ev_assign rfl) rfl ?_
              refine y (ev_assign rfl) rfl ?_
              refine ynil' (kthn (hK27 _ _ ?_))
              clear hK27
              refine cret (kthr ?_)
              first
                | (exfalso; omega; done)
                | (refine kretv2 Tryz.results9 rfl rfl (L1 := [sc b37 _ 55, sc b33 _ 2, rcelP c26 p (openCR E a b), rdev p la E] ++ R) zge ?_
                   exact ⟨_, .inr ⟨by rw [hwe]; exact he0, b37, c26, b33, rfl, by unfold witOR; rw [hfa]; rfl⟩, rfl⟩)
             ·(try simp only [sH] at h188)
              refine yg1 rfl rfl ?_
              refine y (ev_move rfl) rfl ?_
              refine yg1 rfl rfl ?_
              refine y (ev_ixV hvn rfl rfl Tryz.underlying53 Tryz.sizeOf2 (by omega) (by omega)) rfl ?_
              refine yg1 rfl rfl ?_
              refine y (ev_loadV 2 hvn zge rfl Tryz.isAgg2 rfl (intsV_get (getd_get (d := 0) (by omega)))) rfl ?_
              refine yg1 rfl rfl ?_
              refine y (ev_gtr rfl rfl) rfl ?_
              refine y (ev_pick0 rfl rfl) rfl ?_
              refine y (ev_move rfl) rfl ?_
              refine ysplit 103 rfl (fun h203 => ?_) (fun h203 => ?_)
              ·(try simp only [sH] at h203)
               refine yg0 rfl rfl rfl rfl ?_
               refine yg0 rfl rfl rfl rfl ?_
               refine yg0 rfl rfl rfl rfl ?_
               refine yg0 rfl rfl rfl rfl ?_
               refine y (ev_pick1 rfl rfl) rfl ?_
               refine y (ev_move rfl) rfl ?_
               refine yg0 rfl rfl rfl rfl ?_
               refine yg0 rfl rfl rfl rfl ?_
               refine yg0 rfl rfl rfl rfl ?_
               refine yg0 rfl rfl rfl rfl ?_
               refine y (ev_pick1 rfl rfl) rfl ?_
               refine ynil' (kthn (hK22 _ _ ?_))
               clear hK22
               refine ccond1 rfl ?_
               refine cseq ?_; intro K28 hK28
               refine creg ?_
               have hfa := hbad (bad_num (fun hp => by have a := hp.a; have b := hp.b; have c := hp.c; have d := hp.d; omega))
               refine y (ev_move rfl) rfl ?_
               refine y (ev_assign rfl) rfl ?_
               refine y (ev_assign rfl) rfl ?_
               refine ynil' (kthn (hK28 _ _ ?_))
               clear hK28
               refine cret (kthr ?_)
               first
                 | (exfalso; omega; done)
                 | (refine kretv2 Tryz.results9 rfl rfl (L1 := [sc b37 _ 55, sc b33 _ 2, rcelP c26 p (openCR E a b), rdev p la E] ++ R) zge ?_
                    exact ⟨_, .inr ⟨by rw [hwe]; exact he0, b37, c26, b33, rfl, by unfold witOR; rw [hfa]; rfl⟩, rfl⟩)
              ·(try simp only [sH] at h203)
               refine yg1 rfl rfl ?_
               refine y (ev_move rfl) rfl ?_
               refine yg1 rfl rfl ?_
               refine y (ev_ixV hvn rfl rfl Tryz.underlying53 Tryz.sizeOf2 (by omega) (by omega)) rfl ?_
               refine yg1 rfl rfl ?_
               refine y (ev_loadV 3 hvn zge rfl Tryz.isAgg2 rfl (intsV_get (getd_get (d := 0) (by omega)))) rfl ?_
               refine yg1 rfl rfl ?_
               refine y (ev_lss rfl rfl) rfl ?_
               refine y (ev_pick0 rfl rfl) rfl ?_
               refine y (ev_move rfl) rfl ?_
               refine ysplit 109 rfl (fun h216 => ?_) (fun h216 => ?_)
               ·(try simp only [sH] at h216)
                refine yg0 rfl rfl rfl rfl ?_
                refine yg0 rfl rfl rfl rfl ?_
                refine yg0 rfl rfl rfl rfl ?_
                refine yg0 rfl rfl rfl rfl ?_
                refine y (ev_pick1 rfl rfl) rfl ?_
                refine ynil' (kthn (hK22 _ _ ?_))
                clear hK22
                refine ccond1 rfl ?_
                refine cseq ?_; intro K29 hK29
                refine creg ?_
                have hfa := hbad (bad_num (fun hp => by have a := hp.a; have b := hp.b; have c := hp.c; have d := hp.d; omega))
                refine y (ev_move rfl) rfl ?_
                refine y (ev_assign rfl) rfl ?_
                refine y (ev_assign rfl) rfl ?_
                refine ynil' (kthn (hK29 _ _ ?_))
                clear hK29
                refine cret (kthr ?_)
                first
                  | (exfalso; omega; done)
                  | (refine kretv2 Tryz.results9 rfl rfl (L1 := [sc b37 _ 55, sc b33 _ 2, rcelP c26 p (openCR E a b), rdev p la E] ++ R) zge ?_
                     exact ⟨_, .inr ⟨by rw [hwe]; exact he0, b37, c26, b33, rfl, by unfold witOR; rw [hfa]; rfl⟩, rfl⟩)
               ·(try simp only [sH] at h216)
                refine yg1 rfl rfl ?_
                refine y (ev_move rfl) rfl ?_
                refine yg1 rfl rfl ?_
                refine y (ev_ixV hvn rfl rfl Tryz.underlying53 Tryz.sizeOf2 (by omega) (by omega)) rfl ?_
                refine yg1 rfl rfl ?_
                refine y (ev_loadV 3 hvn zge rfl Tryz.isAgg2 rfl (intsV_get (getd_get (d := 0) (by omega)))) rfl ?_
                refine yg1 rfl rfl ?_
                refine y (ev_gtr rfl rfl) rfl ?_
                refine y (ev_pick0 rfl rfl) rfl ?_
                refine ynil' (kthn (hK22 _ _ ?_))
                clear hK22
                refine ccond rfl (fun h226 => ?_) (fun h226 => ?_)
                ·(try simp only [sH] at h226)
                 refine cseq ?_; intro K30 hK30
                 refine creg ?_
                 have hfa := hbad (bad_num (fun hp => by have a := hp.a; have b := hp.b; have c := hp.c; have d := hp.d; omega))
                 refine y (ev_move rfl) rfl ?_
                 refine y (ev_assign rfl) rfl ?_
                 refine y (ev_assign rfl) rfl ?_
                 refine ynil' (kthn (hK30 _ _ ?_))
                 clear hK30
                 refine cret (kthr ?_)
                 first
                   | (exfalso; omega; done)
                   | (refine kretv2 Tryz.results9 rfl rfl (L1 := [sc b37 _ 55, sc b33 _ 2, rcelP c26 p (openCR E a b), rdev p la E] ++ R) zge ?_
                      exact ⟨_, .inr ⟨by rw [hwe]; exact he0, b37, c26, b33, rfl, by unfold witOR; rw [hfa]; rfl⟩, rfl⟩)
                ·(try simp only [sH] at h226)
                 refine cskip' (kthn (hK21 _ _ ?_))
                 clear hK21
                 refine cseq ?_; intro K31 hK31
                 refine cseq ?_; intro K32 hK32
                 refine creg ?_
                 refine y (ev_move rfl) rfl ?_
                 refine y (ev_ixV hvn rfl rfl Tryz.underlying53 Tryz.sizeOf2 (by omega) (by omega)) rfl ?_
                 refine y (ev_loadV 4 hvn zge rfl Tryz.isAgg2 rfl (intsV_get (getd_get (d := 0) (by omega)))) rfl ?_
                 refine y (ev_lss rfl rfl) rfl ?_
                 refine y (ev_move rfl) rfl ?_
                 refine ysplit 120 rfl (fun h235 => ?_) (fun h235 => ?_)
                 ·(try simp only [sH] at h235)
                  refine yg0 rfl rfl rfl rfl ?_
                  refine yg0 rfl rfl rfl rfl ?_
                  refine yg0 rfl rfl rfl rfl ?_
                  refine yg0 rfl rfl rfl rfl ?_
                  refine y (ev_pick1 rfl rfl) rfl ?_
                  refine y (ev_move rfl) rfl ?_
                  refine yg0 rfl rfl rfl rfl ?_
                  refine yg0 rfl rfl rfl rfl ?_
                  refine yg0 rfl rfl rfl rfl ?_
                  refine yg0 rfl rfl rfl rfl ?_
                  refine y (ev_pick1 rfl rfl) rfl ?_
                  refine y (ev_move rfl) rfl ?_
                  refine yg0 rfl rfl rfl rfl ?_
                  refine yg0 rfl rfl rfl rfl ?_
                  refine yg0 rfl rfl rfl rfl ?_
                  refine yg0 rfl rfl rfl rfl ?_
                  refine y (ev_pick1 rfl rfl) rfl ?_
                  refine ynil' (kthn (hK32 _ _ ?_))
                  clear hK32
                  refine ccond1 rfl ?_
                  refine cseq ?_; intro K33 hK33
                  refine creg ?_
                  have hfa := hbad (bad_num (fun hp => by have a := hp.e; have b := hp.f; omega))
                  refine y (ev_move rfl) rfl ?_
                  refine y (ev_assign rfl) rfl ?_
                  refine y (ev_assign rfl) rfl ?_
                  refine ynil' (kthn (hK33 _ _ ?_))
                  clear hK33
                  refine cret (kthr ?_)
                  first
                    | (exfalso; omega; done)
                    | (refine kretv2 Tryz.results9 rfl rfl (L1 := [sc b37 _ 55, sc b33 _ 2, rcelP c26 p (openCR E a b), rdev p la E] ++ R) zge ?_
                       exact ⟨_, .inr ⟨by rw [hwe]; exact he0, b37, c26, b33, rfl, by unfold witOR; rw [hfa]; rfl⟩, rfl⟩)
                 ·(try simp only [sH] at h235)
                  refine yg1 rfl rfl ?_
                  refine y (ev_move rfl) rfl ?_
                  refine yg1 rfl rfl ?_
                  refine y (ev_ixV hvn rfl rfl Tryz.underlying53 Tryz.sizeOf2 (by omega) (by omega)) rfl ?_
                  refine yg1 rfl rfl ?_
                  refine y (ev_loadV 4 hvn zge rfl Tryz.isAgg2 rfl (intsV_get (getd_get (d := 0) (by omega)))) rfl ?_
                  refine yg1 rfl rfl ?_
                  refine y (ev_gtr rfl rfl) rfl ?_
                  refine y (ev_pick0 rfl rfl) rfl ?_
                  refine y (ev_move rfl) rfl ?_
                  refine ysplit 126 rfl (fun h250 => ?_) (fun h250 => ?_)
                  ·(try simp only [sH] at h250)
                   refine yg0 rfl rfl rfl rfl ?_
                   refine yg0 rfl rfl rfl rfl ?_
                   refine yg0 rfl rfl rfl rfl ?_
                   refine yg0 rfl rfl rfl rfl ?_
                   refine y (ev_pick1 rfl rfl) rfl ?_
                   refine y (ev_move rfl) rfl ?_
                   refine yg0 rfl rfl rfl rfl ?_
                   refine yg0 rfl rfl rfl rfl ?_
                   refine yg0 rfl rfl rfl rfl ?_
                   refine yg0 rfl rfl rfl rfl ?_
                   refine y (ev_pick1 rfl rfl) rfl ?_
                   refine ynil' (kthn (hK32 _ _ ?_))
                   clear hK32
                   refine ccond1 rfl ?_
                   refine cseq ?_; intro K34 hK34
                   refine creg ?_
                   have hfa := hbad (bad_num (fun hp => by have a := hp.e; have b := hp.f; omega))
                   refine y (ev_move rfl) rfl ?_
                   refine y (ev_assign rfl) rfl ?_
                   refine y (ev_assign rfl) rfl ?_
                   refine ynil' (kthn (hK34 _ _ ?_))
                   clear hK34
                   refine cret (kthr ?_)
                   first
                     | (exfalso; omega; done)
                     | (refine kretv2 Tryz.results9 rfl rfl (L1 := [sc b37 _ 55, sc b33 _ 2, rcelP c26 p (openCR E a b), rdev p la E] ++ R) zge ?_
                        exact ⟨_, .inr ⟨by rw [hwe]; exact he0, b37, c26, b33, rfl, by unfold witOR; rw [hfa]; rfl⟩, rfl⟩)
                  ·(try simp only [sH] at h250)
                   refine yg1 rfl rfl ?_
                   refine y (ev_move rfl) rfl ?_
                   refine yg1 rfl rfl ?_
                   refine y (ev_ixV hvn rfl rfl Tryz.underlying53 Tryz.sizeOf2 (by omega) (by omega)) rfl ?_
                   refine yg1 rfl rfl ?_
                   refine y (ev_loadV 5 hvn zge rfl Tryz.isAgg2 rfl (intsV_get (getd_get (d := 0) (by omega)))) rfl ?_
                   refine yg1 rfl rfl ?_
                   refine y (ev_lss rfl rfl) rfl ?_
                   refine y (ev_pick0 rfl rfl) rfl ?_
                   refine y (ev_move rfl) rfl ?_
                   refine ysplit 132 rfl (fun h263 => ?_) (fun h263 => ?_)
                   ·(try simp only [sH] at h263)
                    refine yg0 rfl rfl rfl rfl ?_
                    refine yg0 rfl rfl rfl rfl ?_
                    refine yg0 rfl rfl rfl rfl ?_
                    refine yg0 rfl rfl rfl rfl ?_
                    refine y (ev_pick1 rfl rfl) rfl ?_
                    refine ynil' (kthn (hK32 _ _ ?_))
                    clear hK32
                    refine ccond1 rfl ?_
                    refine cseq ?_; intro K35 hK35
                    refine creg ?_
                    have hfa := hbad (bad_num (fun hp => by have a := hp.e; have b := hp.f; omega))
                    refine y (ev_move rfl) rfl ?_
                    refine y (ev_assign rfl) rfl ?_
                    refine y (ev_assign rfl) rfl ?_
                    refine ynil' (kthn (hK35 _ _ ?_))
                    clear hK35
                    refine cret (kthr ?_)
                    first
                      | (exfalso; omega; done)
                      | (refine kretv2 Tryz.results9 rfl rfl (L1 := [sc b37 _ 55, sc b33 _ 2, rcelP c26 p (openCR E a b), rdev p la E] ++ R) zge ?_
                         exact ⟨_, .inr ⟨by rw [hwe]; exact he0, b37, c26, b33, rfl, by unfold witOR; rw [hfa]; rfl⟩, rfl⟩)
                   ·(try simp only [sH] at h263)
                    refine yg1 rfl rfl ?_
                    refine y (ev_move rfl) rfl ?_
                    refine yg1 rfl rfl ?_
                    refine y (ev_ixV hvn rfl rfl Tryz.underlying53 Tryz.sizeOf2 (by omega) (by omega)) rfl ?_
                    refine yg1 rfl rfl ?_
                    refine y (ev_loadV 5 hvn zge rfl Tryz.isAgg2 rfl (intsV_get (getd_get (d := 0) (by omega)))) rfl ?_
                    refine yg1 rfl rfl ?_
                    refine y (ev_gtr rfl rfl) rfl ?_
                    refine y (ev_pick0 rfl rfl) rfl ?_
                    refine ynil' (kthn (hK32 _ _ ?_))
                    clear hK32
                    refine ccond rfl (fun h273 => ?_) (fun h273 => ?_)
                    ·(try simp only [sH] at h273)
                     refine cseq ?_; intro K36 hK36
                     refine creg ?_
                     have hfa := hbad (bad_num (fun hp => by have a := hp.e; have b := hp.f; omega))
                     refine y (ev_move rfl) rfl ?_
                     refine y (ev_assign rfl) rfl ?_
                     refine y (ev_assign rfl) rfl ?_
                     refine ynil' (kthn (hK36 _ _ ?_))
                     clear hK36
                     refine cret (kthr ?_)
                     first
                       | (exfalso; omega; done)
                       | (refine kretv2 Tryz.results9 rfl rfl (L1 := [sc b37 _ 55, sc b33 _ 2, rcelP c26 p (openCR E a b), rdev p la E] ++ R) zge ?_
                          exact ⟨_, .inr ⟨by rw [hwe]; exact he0, b37, c26, b33, rfl, by unfold witOR; rw [hfa]; rfl⟩, rfl⟩)
                    ·(try simp only [sH] at h273)
                     refine cskip' (kthn (hK31 _ _ ?_))
                     clear hK31
                     refine cseq ?_; intro K37 hK37
                     refine creg ?_
                     have hfa := hgood (good_num hq4 ⟨by omega, by omega, by omega, by omega, by omega, by omega⟩)
                     refine y (ev_move rfl) rfl ?_
                     refine y (ev_move rfl) rfl ?_
                     refine y (ev_ixV hvn rfl rfl Tryz.underlying53 Tryz.sizeOf2 (by omega) (by omega)) rfl ?_
                     refine y (ev_loadV 0 hvn zge rfl Tryz.isAgg2 rfl (intsV_get (getd_get (d := 0) (by omega)))) rfl ?_
                     refine y (ev_nil rfl) rfl ?_
                     refine y (ev_fieldAddr 1 rfl Tryz.underlying55 rfl Tryz.sizeOf2) rfl ?_
                     refine ya0 (ac_store rfl rfl (by first | rfl | exact svVal_one _ _ | assumption) Tryz.sizeOf2 zrp rfl rfl) ?_
                     rintro v L' ⟨rfl, rfl⟩
                     refine ynil' (kthn (hK37 _ _ ?_))
                     clear hK37
                     refine cseq ?_; intro K38 hK38
                     refine creg ?_
                     refine y (ev_move rfl) rfl ?_
                     refine y (ev_move rfl) rfl ?_
                     refine y (ev_ixV hvn rfl rfl Tryz.underlying53 Tryz.sizeOf2 (by omega) (by omega)) rfl ?_
                     refine y (ev_loadV 1 hvn zge rfl Tryz.isAgg2 rfl (intsV_get (getd_get (d := 0) (by omega)))) rfl ?_
                     refine y (ev_nil rfl) rfl ?_
                     refine y (ev_fieldAddr 2 rfl Tryz.underlying55 rfl Tryz.sizeOf3) rfl ?_
                     refine ya0 (ac_store rfl rfl (by first | rfl | exact svVal_one _ _ | assumption) Tryz.sizeOf3 zrp rfl rfl) ?_
                     rintro v L' ⟨rfl, rfl⟩
                     refine ynil' (kthn (hK38 _ _ ?_))
                     clear hK38
                     refine cseq ?_; intro K39 hK39
                     refine creg ?_
                     refine y (ev_move rfl) rfl ?_
                     refine y (ev_move rfl) rfl ?_
                     refine y (ev_ixV hvn rfl rfl Tryz.underlying53 Tryz.sizeOf2 (by omega) (by omega)) rfl ?_
                     refine y (ev_loadV 2 hvn zge rfl Tryz.isAgg2 rfl (intsV_get (getd_get (d := 0) (by omega)))) rfl ?_
                     refine y (ev_nil rfl) rfl ?_
                     refine y (ev_fieldAddr 3 rfl Tryz.underlying55 rfl Tryz.sizeOf3) rfl ?_
                     refine ya0 (ac_store rfl rfl (by first | rfl | exact svVal_one _ _ | assumption) Tryz.sizeOf3 zrp rfl rfl) ?_
                     rintro v L' ⟨rfl, rfl⟩
                     refine ynil' (kthn (hK39 _ _ ?_))
                     clear hK39
                     refine cseq ?_; intro K40 hK40
                     refine creg ?_
                     refine y (ev_move rfl) rfl ?_
                     refine y (ev_move rfl) rfl ?_
                     refine y (ev_ixV hvn rfl rfl Tryz.underlying53 Tryz.sizeOf2 (by omega) (by omega)) rfl ?_
                     refine y (ev_loadV 3 hvn zge rfl Tryz.isAgg2 rfl (intsV_get (getd_get (d := 0) (by omega)))) rfl ?_
                     refine y (ev_nil rfl) rfl ?_
                     refine y (ev_fieldAddr 4 rfl Tryz.underlying55 rfl Tryz.sizeOf2) rfl ?_
                     refine ya0 (ac_store rfl rfl (by first | rfl | exact svVal_one _ _ | assumption) Tryz.sizeOf2 zrp rfl rfl) ?_
                     rintro v L' ⟨rfl, rfl⟩
                     refine ynil' (kthn (hK40 _ _ ?_))
                     clear hK40
                     refine cseq ?_; intro K41 hK41
                     refine cdraw 10 [(0, true), (1, true), (2, true), (3, true), (4, true), (5, true), (6, true), (7, false), (8, true), (9, true)] ([svSeg sn44 2 (intsV rc.nums)] ++ R) Tryz.mixed (by kernel_rfl) zge ?_
                     refine hr rfl (ev_move rfl) rfl ?_
                     refine hr rfl (ev_move rfl) rfl ?_
                     refine hr rfl (ev_ixV hvn rfl rfl Tryz.underlying53 Tryz.sizeOf2 (by omega) (by omega)) rfl ?_
                     refine hr rfl (ev_loadV 4 hvn zge rfl Tryz.isAgg2 rfl (intsV_get (getd_get (d := 0) (by omega)))) rfl ?_
                     refine hr rfl (ev_move rfl) rfl ?_
                     refine hr rfl (ev_ixV hvn rfl rfl Tryz.underlying53 Tryz.sizeOf2 (by omega) (by omega)) rfl ?_
                     refine hr rfl (ev_loadV 5 hvn zge rfl Tryz.isAgg2 rfl (intsV_get (getd_get (d := 0) (by omega)))) rfl ?_
                     refine ha rfl (ac_bsliceR (vs := [i64 (rc.nums.getD 4 0), i64 (rc.nums.getD 5 0)]) rfl Tryz.underlying53 Tryz.sizeOf2 Tryz.zeroValue2 rfl rfl rfl rfl ⟨⟨_, _, rfl, (by first | rfl | simp), (by first | decide | simp)⟩, ⟨⟨_, _, rfl, (by first | rfl | simp), (by first | decide | simp)⟩, trivial⟩⟩ (by dsimp [fillL, splice, vcells, reps] <;> rfl)) rfl ?_
                     rintro v L' ⟨b170, rfl, rfl⟩; refine ⟨zge, ?_⟩
                     refine hr rfl (ev_nil rfl) rfl ?_
                     refine hr rfl (ev_fieldAddr 5 rfl Tryz.underlying55 rfl Tryz.sizeOf53) rfl ?_
                     refine hnil ?_
                     refine ya0 (ac_store rfl rfl (by first | rfl | exact svVal_one _ _ | assumption) Tryz.sizeOf53 zrp rfl rfl) ?_
                     rintro v L' ⟨rfl, rfl⟩
                     refine hnoP' (kthn (hK41 _ _ ?_))
                     clear hK41
                     refine cseq ?_; intro K42 hK42
                     refine creg ?_
                     refine y (ev_move rfl) rfl ?_
                     refine y (ev_assign rfl) rfl ?_
                     refine y (ev_assign rfl) rfl ?_
                     refine ynil' (kthn (hK42 _ _ ?_))
                     clear hK42
                     refine cret ?_
                     first
                       | (exfalso; omega; done)
                       | (refine kretv2 Tryz.results9 rfl rfl (L1 := [sc b37 _ 55, sc b170 _ 2, rcelP c26 p (openCR E a b), rdev p la E] ++ R) zge ?_
                          exact ⟨_, .inr ⟨by rw [hwe]; exact he0, b37, c26, b170, rfl, by unfold witOR; rw [hfa]; rfl⟩, rfl⟩)
end W
end Go.Proofs
