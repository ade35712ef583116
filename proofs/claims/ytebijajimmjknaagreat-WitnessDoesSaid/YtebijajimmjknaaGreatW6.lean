/- A part of the proof: contracts and plain lemmas, each without conditions beyond those that it names. -/
import Derived.Test.YtebijajimmjknaaGreatW5
import Derived.Test.YtebijajimmjknaaGreatGH
set_option linter.unusedVariables false
set_option linter.unusedSimpArgs false
set_option linter.constructorNameAsVariable false
namespace Go.Proofs
open Go Go.Sl
namespace W
set_option linter.unusedVariables false
theorem tLeft [Env] {R : List Seg} {s c : Nat} {W : WitM} : Con Tryz.prog 60 [tmP s] [witP s c W] R (Is (i64 W.left) [witP s c W]) := by
  unfold witP
  refine con_enter Tryz.func60 Tryz.ntmps60 rfl rfl ?_
  refine cseq ?_; intro K1 hK1
  refine creg ?_
  refine y (ev_assign rfl) rfl ?_
  refine ynil' (kthn (hK1 _ _ ?_))
  clear hK1
  refine cseq ?_; intro K2 hK2
  refine creg ?_
  refine y (ev_move rfl) rfl ?_
  refine y (ev_nil rfl) rfl ?_
  refine y (ev_fieldAddr 0 rfl Tryz.underlying95 rfl Tryz.sizeOf2) rfl ?_
  refine y (ev_load rfl Tryz.isAgg2 zin rfl) rfl ?_
  refine y (ev_assign rfl) rfl ?_
  refine ynil' (kthn (hK2 _ _ ?_))
  clear hK2
  refine cret ?_
  first
    | (exfalso; omega; done)
    | (refine kretv Tryz.results60 rfl (L1 := _) zge ?_
       exact ⟨_, ⟨by first | rfl | (simp [*]; done) | (simp [*]; omega) | simp_all, rfl⟩, by first | rfl | (simp [*]; done) | (simp [*]; omega) | simp_all⟩)
theorem wLeft [Env] {R : List Seg} {s c : Nat} {W : WitM} : Con Tryz.prog 25 [ptr s] [witP s c W] R (Is (i64 W.left) [witP s c W]) := by
  refine con_enter Tryz.func25 Tryz.ntmps25 rfl rfl ?_
  refine cseq ?_; intro K1 hK1
  refine creg ?_
  refine y (ev_assign rfl) rfl ?_
  refine ynil' (kthn (hK1 _ _ ?_))
  clear hK1
  refine cseq ?_; intro K2 hK2
  refine creg ?_
  refine y (ev_move rfl) rfl ?_
  refine y (ev_nil rfl) rfl ?_
  refine y (ev_fieldAddr 7 rfl Tryz.underlying97 rfl Tryz.sizeOf95) rfl ?_
  refine ycall (tLeft) rfl Tryz.call60 ztk rfl ?_
  rintro v L' ⟨rfl, rfl⟩
  refine y (ev_assign rfl) rfl ?_
  refine ynil' (kthn (hK2 _ _ ?_))
  clear hK2
  refine cret ?_
  first
    | (exfalso; omega; done)
    | (refine kretv Tryz.results25 rfl (L1 := _) zge ?_
       exact ⟨_, ⟨by first | rfl | (simp [*]; done) | (simp [*]; omega) | simp_all, rfl⟩, by first | rfl | (simp [*]; done) | (simp [*]; omega) | simp_all⟩)
theorem wOpenGood [Env] {R : List Seg} {q : Q3} {D : Dev} {a b wait : Int} (hD : D.ok) (h : witE D a b wait = 0) : Con Tryz.prog 8 [dp q, i64 a, i64 b, i64 wait] [dev q D] R (fun u L' => ∃ s c, u = .tuple #[ptr s, i64 0] ∧ L' = [witP s c (witO D a b wait), celP c q (witO D a b wait).c, dev q D]) := by
  refine (wOpen hD).mono ?_
  rintro v L (⟨h1, _⟩ | ⟨_, s, c, rfl, rfl⟩)
  · exact absurd h h1
  · exact ⟨s, c, rfl, rfl⟩
theorem wOpenBad [Env] {R : List Seg} {q : Q3} {D : Dev} {a b wait e : Int} (hD : D.ok) (h : witE D a b wait = e) (he : e ≠ 0) : Con Tryz.prog 8 [dp q, i64 a, i64 b, i64 wait] [dev q D] R (Is (.tuple #[nilP, i64 e]) [dev q D]) := by
  subst h
  refine (wOpen hD).mono ?_
  rintro v L (⟨_, rfl, rfl⟩ | ⟨h1, _⟩)
  · exact ⟨rfl, rfl⟩
  · exact absurd h1 he
theorem wTakeGood [Env] {R : List Seg} {s c k : Nat} {q : Q3} {W : WitM} {D : Dev} {fr : Int} {m : MsgM} {r : (MsgM × Bool) × FL} (hG : WGood W D k) (hk : k < 4611686018427387904) (hr0 : takeF W.f W.left W.wait fr m = r) :
    Con Tryz.prog 11 [ptr s, i64 fr, .agg m.cells.toArray] [witP s c W, celP c q W.c, dev q D] R (fun u L' => ∃ W' D', u = .tuple #[.agg r.1.1.cells.toArray, .bool r.1.2] ∧ W'.f = r.2.1 ∧ W'.left = r.2.2 ∧ W'.wait = W.wait ∧ WGood W' D' (k + 1) ∧ L' = [witP s c W', celP c q W'.c, dev q D']) := by
  subst hr0
  refine (wTake hG.wok).mono ?_
  rintro v L ⟨rfl, rfl⟩
  obtain ⟨h1, h2, h3, h4, h5⟩ := take_good hG hk fr m
  exact ⟨_, _, by rw [h1], h2, h3, h4, h5, rfl⟩
abbrev askM : MsgM := ⟨1, 0, 0, 0, 0, 0, 0, 0, 0, 0, 0, [], []⟩
abbrev chgM : MsgM := ⟨3, 1, 1, 1, 0, 0, 0, 0, 0, 0, 0, [], []⟩
abbrev fA : FactM := ⟨1, 0, 3, 0, -1, -1⟩
abbrev fB : FactM := ⟨1, 0, 1, 1, -1, -1⟩
theorem awake14 [Env] {R : List Seg} : Con Tryz.prog 5 [] [] R (Is (.bool true) []) := by
  have hU0 : Up (Dev.new 2) 2 := new_up (by decide)
  have hE0 : witE (Dev.new 2) 0 1 2 = 0 := witE_zero.2 ⟨by decide, openE_up hU0 (by decide) (by decide) (by decide)⟩
  have hE1 : witE (Dev.new 2) 0 1 0 = 1 := by unfold witE; rw [if_pos (by decide)]
  have hG0 := good_new (wait := 2) (by decide)
  obtain ⟨hf0, hl0, hw0⟩ := witO_new 2
  refine con_enter Tryz.func5 Tryz.ntmps5 rfl rfl ?_
  refine cseq ?_; intro K1 hK1
  refine creg ?_
  refine y (ev_assign rfl) rfl ?_
  refine ynil' (kthn (hK1 _ _ ?_))
  clear hK1
  refine cseq ?_; intro K2 hK2
  refine creg ?_
  refine ycall (secNew (n := 2) (by omega)) rfl Tryz.call6 ztk rfl ?_
  rintro v L' ⟨q19, rfl, rfl⟩
  refine y (ev_assign rfl) rfl ?_
  refine ynil' (kthn (hK2 _ _ ?_))
  clear hK2
  refine cseq ?_; intro K3 hK3
  refine cseq ?_; intro K4 hK4
  refine creg ?_
  refine y (ev_move rfl) rfl ?_
  skip
  ·skip
   refine y (ev_eqlPnil rfl rfl Tryz.underlying24) rfl ?_
   refine ynil' (kthn (hK4 _ _ ?_))
   clear hK4
   refine ccond0 rfl ?_
   refine cskip' (kthn (hK3 _ _ ?_))
   clear hK3
   refine cseq ?_; intro K5 hK5
   refine creg ?_
   refine y (ev_move rfl) rfl ?_
   refine ycall (wOpenGood hU0.ok hE0) rfl Tryz.call8 ztk rfl ?_
   rintro v L' ⟨s24, c24, rfl, rfl⟩
   generalize witO (Dev.new 2) 0 1 2 = W0 at *
   refine y (ev_move rfl) rfl ?_
   refine y (ev_extract rfl rfl) rfl ?_
   refine y (ev_extract rfl rfl) rfl ?_
   refine y (ev_assign rfl) rfl ?_
   refine y (ev_assign rfl) rfl ?_
   refine ynil' (kthn (hK5 _ _ ?_))
   clear hK5
   refine cseq ?_; intro K6 hK6
   refine creg ?_
   refine y (ev_move rfl) rfl ?_
   refine ycall (wOpenBad hU0.ok hE1 (by decide)) rfl Tryz.call8 ztk rfl ?_
   rintro v L' ⟨rfl, rfl⟩
   refine y (ev_move rfl) rfl ?_
   refine y (ev_extract rfl rfl) rfl ?_
   refine y (ev_extract rfl rfl) rfl ?_
   refine y (ev_assign rfl) rfl ?_
   refine y (ev_assign rfl) rfl ?_
   refine ynil' (kthn (hK6 _ _ ?_))
   clear hK6
   refine cseq ?_; intro K7 hK7
   refine cseq ?_; intro K8 hK8
   refine creg ?_
   refine y (ev_move rfl) rfl ?_
   skip
   ·skip
    refine y (ev_eqlPnil rfl rfl Tryz.underlying28) rfl ?_
    refine y (ev_move rfl) rfl ?_
    refine yg1 rfl rfl ?_
    refine y (ev_move rfl) rfl ?_
    refine yg1 rfl rfl ?_
    refine y (ev_neq rfl rfl) rfl ?_
    refine y (ev_pick0 rfl rfl) rfl ?_
    refine y (ev_move rfl) rfl ?_
    refine yg1 rfl rfl ?_
    refine y (ev_move rfl) rfl ?_
    refine yg1 rfl rfl ?_
    refine y (ev_neq rfl rfl) rfl ?_
    refine y (ev_pick0 rfl rfl) rfl ?_
    refine ynil' (kthn (hK8 _ _ ?_))
    clear hK8
    refine ccond0 rfl ?_
    refine cskip' (kthn (hK7 _ _ ?_))
    clear hK7
    refine cseq ?_; intro K9 hK9
    refine creg ?_
    refine y (ev_build (vs := [i64 1, i64 0, i64 0, i64 0, i64 0, i64 0, i64 0, i64 0, i64 0, i64 0, i64 0, str [], str []]) (zs := _) rfl Tryz.underlying37 Tryz.zeroValue37 rfl (.cons Tryz.sizeOf3 (.cons Tryz.sizeOf2 (.cons Tryz.sizeOf2 (.cons Tryz.sizeOf2 (.cons Tryz.sizeOf3 (.cons Tryz.sizeOf3 (.cons Tryz.sizeOf29 (.cons Tryz.sizeOf35 (.cons Tryz.sizeOf9 (.cons Tryz.sizeOf9 .nil)))))))))) ⟨⟨_, _, rfl, (by first | rfl | simp), (by first | decide | simp)⟩, trivial⟩ (by dsimp [fillL, splice, vcells] <;> rfl)) rfl ?_
    refine ya (ac_alloc Tryz.zeroValue37 rfl) rfl ?_
    rintro v L' ⟨b6, rfl, rfl⟩
    refine ya0 (ac_storeN rfl rfl (msg_one askM) Tryz.sizeOf37 zrp rfl (by decide) rfl) ?_
    rintro v L' ⟨rfl, rfl⟩
    refine ynil' (kthn (hK9 _ _ ?_))
    clear hK9
    refine cseq ?_; intro K10 hK10
    refine creg ?_
    refine y (ev_move rfl) rfl ?_
    refine y (ev_loadAll rfl Tryz.isAgg37 Tryz.sizeOf37 zin (by first | rfl | assumption | (simp [*]; done) | (simp [*]; omega))) rfl ?_
    refine ycall (wTakeGood (m := askM) (r := ((ansF .first askM 25, true), .first, 2)) hG0 (by decide) (by rw [hf0, hl0, hw0]; decide)) rfl Tryz.call11 ztk rfl ?_
    rintro v L' ⟨W1, D1, rfl, hf1, hl1, hw1, hG1, rfl⟩
    dsimp only at hf1 hl1; rw [hw0] at hw1
    have hG2 := hG1.tick.tick
    refine y (ev_move rfl) rfl ?_
    refine y (ev_extract rfl rfl) rfl ?_
    refine y (ev_extract rfl rfl) rfl ?_
    refine ya (ac_alloc Tryz.zeroValue37 rfl) rfl ?_
    rintro v L' ⟨b7, rfl, rfl⟩
    refine ya0 (ac_storeN rfl rfl (msg_one _) Tryz.sizeOf37 zrp rfl (by simp [MsgM.cells]) rfl) ?_
    rintro v L' ⟨rfl, rfl⟩
    refine y (ev_assign rfl) rfl ?_
    refine ynil' (kthn (hK10 _ _ ?_))
    clear hK10
    refine cseq ?_; intro K11 hK11
    refine creg ?_
    refine y (ev_move rfl) rfl ?_
    refine ycall (wTick ?lf55) rfl Tryz.call13 ztk rfl ?_
    case lf55 => first | exact hG1.left | exact hG1.tick.left
    rintro v L' ⟨rfl, rfl⟩
    refine ynil' (kthn (hK11 _ _ ?_))
    clear hK11
    refine cseq ?_; intro K12 hK12
    refine creg ?_
    refine y (ev_move rfl) rfl ?_
    refine ycall (wTick ?lf57) rfl Tryz.call13 ztk rfl ?_
    case lf57 => first | exact hG1.left | exact hG1.tick.left
    rintro v L' ⟨rfl, rfl⟩
    refine ynil' (kthn (hK12 _ _ ?_))
    clear hK12
    refine cseq ?_; intro K13 hK13
    refine creg ?_
    refine y (ev_move rfl) rfl ?_
    refine y (ev_loadAll rfl Tryz.isAgg37 Tryz.sizeOf37 zin (by first | rfl | assumption | (simp [*]; done) | (simp [*]; omega))) rfl ?_
    refine ycall (wTakeGood (m := askM) (r := ((ansF fA askM 0, true), fA, 2)) hG2 (by decide) (by simp only [WitM.tick, hf1, hl1, hw1]; decide)) rfl Tryz.call11 ztk rfl ?_
    rintro v L' ⟨W2, D2, rfl, hf2, hl2, hw2, hG3, rfl⟩
    dsimp only at hf2 hl2; simp only [WitM.tick, hw1] at hw2
    refine y (ev_move rfl) rfl ?_
    refine y (ev_extract rfl rfl) rfl ?_
    refine y (ev_extract rfl rfl) rfl ?_
    refine ya (ac_alloc Tryz.zeroValue37 rfl) rfl ?_
    rintro v L' ⟨b9, rfl, rfl⟩
    refine ya0 (ac_storeN rfl rfl (msg_one _) Tryz.sizeOf37 zrp rfl (by simp [MsgM.cells]) rfl) ?_
    rintro v L' ⟨rfl, rfl⟩
    refine y (ev_assign rfl) rfl ?_
    refine ynil' (kthn (hK13 _ _ ?_))
    clear hK13
    refine cseq ?_; intro K14 hK14
    refine creg ?_
    refine y (ev_move rfl) rfl ?_
    refine y (ev_loadAll rfl Tryz.isAgg37 Tryz.sizeOf37 zin (by first | rfl | assumption | (simp [*]; done) | (simp [*]; omega))) rfl ?_
    refine ycall (wTakeGood (m := askM) (r := ((ansF fA askM 25, true), fA, 2)) hG3 (by decide) (by rw [hf2, hl2, hw2]; decide)) rfl Tryz.call11 ztk rfl ?_
    rintro v L' ⟨W3, D3, rfl, hf3, hl3, hw3, hG4, rfl⟩
    dsimp only at hf3 hl3; rw [hw2] at hw3
    refine y (ev_move rfl) rfl ?_
    refine y (ev_extract rfl rfl) rfl ?_
    refine y (ev_extract rfl rfl) rfl ?_
    refine ya (ac_alloc Tryz.zeroValue37 rfl) rfl ?_
    rintro v L' ⟨b11, rfl, rfl⟩
    refine ya0 (ac_storeN rfl rfl (msg_one _) Tryz.sizeOf37 zrp rfl (by simp [MsgM.cells]) rfl) ?_
    rintro v L' ⟨rfl, rfl⟩
    refine y (ev_assign rfl) rfl ?_
    refine ynil' (kthn (hK14 _ _ ?_))
    clear hK14
    refine cseq ?_; intro K15 hK15
    refine creg ?_
    refine y (ev_move rfl) rfl ?_
    refine y (ev_build (vs := [i64 3, i64 1, i64 1, i64 1, i64 0, i64 0, i64 0, i64 0, i64 0, i64 0, i64 0, str [], str []]) (zs := _) rfl Tryz.underlying37 Tryz.zeroValue37 rfl (.cons Tryz.sizeOf3 (.cons Tryz.sizeOf2 (.cons Tryz.sizeOf2 (.cons Tryz.sizeOf2 (.cons Tryz.sizeOf3 (.cons Tryz.sizeOf3 (.cons Tryz.sizeOf29 (.cons Tryz.sizeOf35 (.cons Tryz.sizeOf9 (.cons Tryz.sizeOf9 .nil)))))))))) ⟨⟨_, _, rfl, (by first | rfl | simp), (by first | decide | simp)⟩, ⟨⟨_, _, rfl, (by first | rfl | simp), (by first | decide | simp)⟩, ⟨⟨_, _, rfl, (by first | rfl | simp), (by first | decide | simp)⟩, ⟨⟨_, _, rfl, (by first | rfl | simp), (by first | decide | simp)⟩, trivial⟩⟩⟩⟩ (by dsimp [fillL, splice, vcells] <;> rfl)) rfl ?_
    refine ycall (wTakeGood (m := chgM) (r := ((ansF fB chgM 0, true), fB, 2)) hG4 (by decide) (by rw [hf3, hl3, hw3]; decide)) rfl Tryz.call11 ztk rfl ?_
    rintro v L' ⟨W4, D4, rfl, hf4, hl4, hw4, hG5, rfl⟩
    dsimp only at hf4 hl4; rw [hw3] at hw4
    refine y (ev_move rfl) rfl ?_
    refine y (ev_extract rfl rfl) rfl ?_
    refine y (ev_extract rfl rfl) rfl ?_
    refine ya (ac_alloc Tryz.zeroValue37 rfl) rfl ?_
    rintro v L' ⟨b13, rfl, rfl⟩
    refine ya0 (ac_storeN rfl rfl (msg_one _) Tryz.sizeOf37 zrp rfl (by simp [MsgM.cells]) rfl) ?_
    rintro v L' ⟨rfl, rfl⟩
    refine y (ev_assign rfl) rfl ?_
    refine ynil' (kthn (hK15 _ _ ?_))
    clear hK15
    refine cseq ?_; intro K16 hK16
    refine creg ?_
    refine y (ev_move rfl) rfl ?_
    refine y (ev_loadAll rfl Tryz.isAgg37 Tryz.sizeOf37 zin (by first | rfl | assumption | (simp [*]; done) | (simp [*]; omega))) rfl ?_
    refine ycall (wTakeGood (m := askM) (r := ((ansF fB askM 20, true), fB, 2)) hG5 (by decide) (by rw [hf4, hl4, hw4]; decide)) rfl Tryz.call11 ztk rfl ?_
    rintro v L' ⟨W5, D5, rfl, hf5, hl5, hw5, hG6, rfl⟩
    dsimp only at hf5 hl5; rw [hw4] at hw5
    refine y (ev_move rfl) rfl ?_
    refine y (ev_extract rfl rfl) rfl ?_
    refine y (ev_extract rfl rfl) rfl ?_
    refine ya (ac_alloc Tryz.zeroValue37 rfl) rfl ?_
    rintro v L' ⟨b15, rfl, rfl⟩
    refine ya0 (ac_storeN rfl rfl (msg_one _) Tryz.sizeOf37 zrp rfl (by simp [MsgM.cells]) rfl) ?_
    rintro v L' ⟨rfl, rfl⟩
    refine y (ev_assign rfl) rfl ?_
    refine ynil' (kthn (hK16 _ _ ?_))
    clear hK16
    refine cseq ?_; intro K17 hK17
    refine creg ?_
    refine y (ev_move rfl) rfl ?_
    refine y (ev_loadAll rfl Tryz.isAgg37 Tryz.sizeOf37 zin (by first | rfl | assumption | (simp [*]; done) | (simp [*]; omega))) rfl ?_
    refine ycall (wTakeGood (m := askM) (r := ((.zero, false), fB, 2)) hG6 (by decide) (by rw [hf5, hl5, hw5]; decide)) rfl Tryz.call11 ztk rfl ?_
    rintro v L' ⟨W6, D6, rfl, hf6, hl6, hw6, hG7, rfl⟩
    dsimp only at hf6 hl6
    refine y (ev_move rfl) rfl ?_
    refine y (ev_extract rfl rfl) rfl ?_
    refine y (ev_extract rfl rfl) rfl ?_
    refine ya (ac_alloc Tryz.zeroValue37 rfl) rfl ?_
    rintro v L' ⟨b17, rfl, rfl⟩
    refine ya0 (ac_storeN rfl rfl (msg_one _) Tryz.sizeOf37 zrp rfl (by simp [MsgM.cells]) rfl) ?_
    rintro v L' ⟨rfl, rfl⟩
    refine y (ev_assign rfl) rfl ?_
    refine ynil' (kthn (hK17 _ _ ?_))
    clear hK17
    refine cseq ?_; intro K18 hK18
    refine creg ?_
    refine y (ev_fieldAddr 6 rfl Tryz.underlying37 rfl Tryz.sizeOf29) rfl ?_
    skip
    ·skip
     refine y (ev_load rfl Tryz.isAgg29 zin rfl) rfl ?_
     refine y (ev_eql rfl rfl) rfl ?_
     refine y (ev_move rfl) rfl ?_
     refine yg1 rfl rfl ?_
     refine y (ev_fieldAddr 6 rfl Tryz.underlying37 rfl Tryz.sizeOf29) rfl ?_
     refine yg1 rfl rfl ?_
     refine y (ev_load rfl Tryz.isAgg29 zin rfl) rfl ?_
     refine yg1 rfl rfl ?_
     refine y (ev_eql rfl rfl) rfl ?_
     refine y (ev_pick1 rfl rfl) rfl ?_
     refine y (ev_move rfl) rfl ?_
     refine yg1 rfl rfl ?_
     refine y (ev_fieldAddr 1 rfl Tryz.underlying37 rfl Tryz.sizeOf2) rfl ?_
     refine yg1 rfl rfl ?_
     refine y (ev_load rfl Tryz.isAgg2 zin rfl) rfl ?_
     refine yg1 rfl rfl ?_
     refine y (ev_eql rfl rfl) rfl ?_
     refine y (ev_pick1 rfl rfl) rfl ?_
     refine y (ev_move rfl) rfl ?_
     refine yg1 rfl rfl ?_
     refine y (ev_fieldAddr 0 rfl Tryz.underlying37 rfl Tryz.sizeOf3) rfl ?_
     refine yg1 rfl rfl ?_
     refine y (ev_load rfl Tryz.isAgg3 zin rfl) rfl ?_
     refine yg1 rfl rfl ?_
     refine y (ev_eql rfl rfl) rfl ?_
     refine y (ev_pick1 rfl rfl) rfl ?_
     refine y (ev_move rfl) rfl ?_
     refine yg1 rfl rfl ?_
     refine y (ev_move rfl) rfl ?_
     refine y (ev_pick1 rfl rfl) rfl ?_
     refine y (ev_move rfl) rfl ?_
     refine yg1 rfl rfl ?_
     refine y (ev_fieldAddr 6 rfl Tryz.underlying37 rfl Tryz.sizeOf29) rfl ?_
     refine yg1 rfl rfl ?_
     refine y (ev_load rfl Tryz.isAgg29 zin rfl) rfl ?_
     refine yg1 rfl rfl ?_
     refine y (ev_eql rfl rfl) rfl ?_
     refine y (ev_pick1 rfl rfl) rfl ?_
     refine y (ev_move rfl) rfl ?_
     refine yg1 rfl rfl ?_
     refine y (ev_fieldAddr 6 rfl Tryz.underlying37 rfl Tryz.sizeOf29) rfl ?_
     refine yg1 rfl rfl ?_
     refine y (ev_load rfl Tryz.isAgg29 zin rfl) rfl ?_
     refine yg1 rfl rfl ?_
     refine y (ev_eql rfl rfl) rfl ?_
     refine y (ev_pick1 rfl rfl) rfl ?_
     refine y (ev_move rfl) rfl ?_
     refine yg1 rfl rfl ?_
     refine y (ev_fieldAddr 2 rfl Tryz.underlying37 rfl Tryz.sizeOf2) rfl ?_
     refine yg1 rfl rfl ?_
     refine y (ev_load rfl Tryz.isAgg2 zin rfl) rfl ?_
     refine yg1 rfl rfl ?_
     refine y (ev_eql rfl rfl) rfl ?_
     refine y (ev_pick1 rfl rfl) rfl ?_
     refine y (ev_move rfl) rfl ?_
     refine yg1 rfl rfl ?_
     refine y (ev_fieldAddr 6 rfl Tryz.underlying37 rfl Tryz.sizeOf29) rfl ?_
     refine yg1 rfl rfl ?_
     refine y (ev_load rfl Tryz.isAgg29 zin rfl) rfl ?_
     refine yg1 rfl rfl ?_
     refine y (ev_eql rfl rfl) rfl ?_
     refine y (ev_pick1 rfl rfl) rfl ?_
     refine y (ev_move rfl) rfl ?_
     refine yg1 rfl rfl ?_
     refine y (ev_move rfl) rfl ?_
     refine yg1 rfl rfl ?_
     refine y (ev_not rfl) rfl ?_
     refine y (ev_pick1 rfl rfl) rfl ?_
     refine y (ev_move rfl) rfl ?_
     refine yg1 rfl rfl ?_
     refine y (ev_move rfl) rfl ?_
     refine yg1 rfl rfl ?_
     refine ycall (wEpoch) rfl Tryz.call22 ztk rfl ?_
     rintro v L' ⟨rfl, rfl⟩
     rw [hf6]
     refine yg1 rfl rfl ?_
     refine y (ev_eql rfl rfl) rfl ?_
     refine y (ev_pick1 rfl rfl) rfl ?_
     refine y (ev_move rfl) rfl ?_
     refine yg1 rfl rfl ?_
     refine y (ev_move rfl) rfl ?_
     refine yg1 rfl rfl ?_
     refine ycall (wHolder) rfl Tryz.call23 ztk rfl ?_
     rintro v L' ⟨rfl, rfl⟩
     rw [hf6]
     refine yg1 rfl rfl ?_
     refine y (ev_eql rfl rfl) rfl ?_
     refine y (ev_pick1 rfl rfl) rfl ?_
     refine y (ev_move rfl) rfl ?_
     refine yg1 rfl rfl ?_
     refine y (ev_move rfl) rfl ?_
     refine yg1 rfl rfl ?_
     refine ycall (wMask) rfl Tryz.call24 ztk rfl ?_
     rintro v L' ⟨rfl, rfl⟩
     rw [hf6]
     refine yg1 rfl rfl ?_
     refine y (ev_eql rfl rfl) rfl ?_
     refine y (ev_pick1 rfl rfl) rfl ?_
     refine y (ev_move rfl) rfl ?_
     refine yg1 rfl rfl ?_
     refine y (ev_move rfl) rfl ?_
     refine yg1 rfl rfl ?_
     refine ycall (wLeft) rfl Tryz.call25 ztk rfl ?_
     rintro v L' ⟨rfl, rfl⟩
     rw [hl6]
     refine yg1 rfl rfl ?_
     refine y (ev_eql rfl rfl) rfl ?_
     refine y (ev_pick1 rfl rfl) rfl ?_
     refine y (ev_assign rfl) rfl ?_
     refine ynil' (kthn (hK18 _ _ ?_))
     clear hK18
     refine cret ?_
     first
       | (exfalso; omega; done)
       | (refine kretv Tryz.results5 rfl (L1 := R) zge ?_
          exact ⟨_, ⟨by rfl, rfl⟩, by rfl⟩)
end W
end Go.Proofs
