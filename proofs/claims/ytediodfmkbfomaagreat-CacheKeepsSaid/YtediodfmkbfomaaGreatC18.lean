/- A part of the proof: contracts and plain lemmas, each without conditions beyond those that it names. -/
import Derived.Test.YtediodfmkbfomaaGreatC14
import Derived.Test.YtediodfmkbfomaaGreatGO
set_option linter.unusedVariables false
set_option linter.unusedSimpArgs false
set_option linter.constructorNameAsVariable false
namespace Go.Proofs
open Go Go.Sl
namespace W
set_option linter.unusedVariables false
set_option maxHeartbeats 2000000 in
theorem awake9 [Env] {R : List Seg} : Con Tryz.prog 11 [] [] R (Is (.bool true) []) := by
 obtain ⟨C18, D18, hop0, hS0, hv0⟩ := new_cas (m := 4) (n := 8) (by decide) (by decide)
 have hop : caOpen (Dev.new 10) 2 8 0 1 4 = (0, C18, D18) := hop0
 have aS0 : AwS 1 (fun _ => none) ⟨0, 0, ⟨0, 0, 0, 0⟩⟩ C18 D18 := ⟨hS0, congrArg CaV.en hv0, congrArg CaV.k hv0⟩
 refine con_enter Tryz.func11 Tryz.ntmps11 rfl rfl ?_
 refine cseq ?_; intro K1 hK1
 refine creg ?_
 refine yas ?_
 refine ynil' (kthn (hK1 _ _ ?_))
 clear hK1
 refine cseq ?_; intro K2 hK2
 refine creg ?_
 refine ycall (secNew (n := 10) (by omega)) rfl Tryz.call34 ztk rfl ?_
 rintro v L' ⟨q13, rfl, rfl⟩
 refine yas ?_
 refine ynil' (kthn (hK2 _ _ ?_))
 clear hK2
 refine cseq ?_; intro K3 hK3
 refine cseq ?_; intro K4 hK4
 refine creg ?_
 refine ymv ?_
 skip
 ·skip
  refine y (ev_eqlPnil rfl rfl Tryz.underlying25) rfl ?_
  refine ynil' (kthn (hK4 _ _ ?_))
  clear hK4
  refine ccond0 rfl ?_
  refine cskip' (kthn (hK3 _ _ ?_))
  clear hK3
  refine cseq ?_; intro K5 hK5
  refine creg ?_
  refine ymv ?_
  refine ycall (kOpenY (Dev.new_ok (by decide)) (by decide) (by decide) hop) rfl Tryz.call20 ztk rfl ?_
  rintro v L' ⟨A18, sl18, rfl, ok18, rfl⟩
  refine ymv ?_
  refine yxt ?_
  refine yxt ?_
  refine ya (ac_alloc Tryz.zeroValue26 rfl) rfl ?_
  rintro v L' ⟨b2, rfl, rfl⟩
  refine ya0 (ac_store rfl rfl (by first | rfl | exact svVal_one _ _ | assumption) Tryz.sizeOf26 zrp rfl rfl) ?_
  rintro v L' ⟨rfl, rfl⟩
  refine yas ?_
  refine ynil' (kthn (hK5 _ _ ?_))
  clear hK5
  refine cseq ?_; intro K6 hK6
  refine creg ?_
  refine ymv ?_
  refine ycall (kOpenN hS0.g.ok.d (by decide) (by decide) (by decide)) rfl Tryz.call20 ztk rfl ?_
  rintro v L' ⟨rfl, rfl⟩
  refine ymv ?_
  refine yxt ?_
  refine yxt ?_
  refine yas ?_
  refine yas ?_
  refine ynil' (kthn (hK6 _ _ ?_))
  clear hK6
  refine cseq ?_; intro K7 hK7
  refine cseq ?_; intro K8 hK8
  refine creg ?_
  refine y (ev_load rfl Tryz.isAgg26 zin rfl) rfl ?_
  skip
  ·skip
   refine y (ev_eqlPnil rfl rfl Tryz.underlying26) rfl ?_
   refine ymv ?_
   refine ygo ?_
   refine ymv ?_
   refine ygo ?_
   refine y (ev_neq rfl rfl) rfl ?_
   refine ypb ?_
   refine ymv ?_
   refine ygo ?_
   refine ymv ?_
   refine ygo ?_
   refine y (ev_neq rfl rfl) rfl ?_
   refine ypb ?_
   refine ymv ?_
   refine ygo ?_
   refine y (ev_load rfl Tryz.isAgg26 zin rfl) rfl ?_
   refine ygo ?_
   refine ycall (kRoom (C := C18) ?rn33) rfl Tryz.call14 ztk rfl ?_
   case rn33 => have := hS0.g.nn; omega
   rintro v L' ⟨rfl, rfl⟩
   rw [show ((C18.n : Int) - 6) = 2 by have := hS0.g.nn; omega]
   refine ygo ?_
   refine y (ev_neq rfl rfl) rfl ?_
   refine ypb ?_
   refine ynil' (kthn (hK8 _ _ ?_))
   clear hK8
   refine ccond0 rfl ?_
   refine cskip' (kthn (hK7 _ _ ?_))
   clear hK7
   refine cseq ?_; intro K9 hK9
   refine creg ?_
   refine y (ev_mkFunc (vs := #[ptr b2]) (fun a hf => by
       have h1 : a.eval (.tmp 2) = ptr b2 := hf.ev rfl
       simp [h1])) rfl ?_
   refine yas ?_
   refine ynil' (kthn (hK9 _ _ ?_))
   clear hK9
   refine cseq ?_; intro K10 hK10
   refine cseq ?_; intro K11 hK11
   refine creg ?_
   skip
   ·skip
    refine ymv ?_
    refine ycallF rfl (nAwPut (A := A18) (q := q13) (bc := b2) (D := D18) aS0.s.g.ok ok18) rfl Tryz.call35 ztk rfl ?_
    rintro v L' ⟨sl43, rfl, ok43, rfl⟩
    obtain ⟨e1, aS1⟩ := aw_a hS0 hv0
    generalize C18.put D18 (aw 0 1 true) = r1 at *
    obtain ⟨c1, C1, D1⟩ := r1
    dsimp only at *
    subst e1
    refine y (ev_neq rfl rfl) rfl ?_
    refine ymv ?_
    refine ygo ?_
    refine ymv ?_
    refine ygo ?_
    refine ycallF rfl (nAwPut (A := A18) (q := q13) (bc := b2) (D := D1) aS1.s.g.ok ok43) rfl Tryz.call35 ztk rfl ?_
    rintro v L' ⟨sl47, rfl, ok47, rfl⟩
    obtain ⟨e2, aS2⟩ := aw_b aS1
    generalize C1.put D1 (aw 1 2 true) = r2 at *
    obtain ⟨c2, C2, D2⟩ := r2
    dsimp only at *
    subst e2
    refine ygo ?_
    refine y (ev_neq rfl rfl) rfl ?_
    refine ypb ?_
    refine ymv ?_
    refine ygo ?_
    refine ymv ?_
    refine ygo ?_
    refine ycallF rfl (nAwPut (A := A18) (q := q13) (bc := b2) (D := D2) aS2.s.g.ok ok47) rfl Tryz.call35 ztk rfl ?_
    rintro v L' ⟨sl52, rfl, ok52, rfl⟩
    obtain ⟨e3, e3', aS3⟩ := aw_c aS2
    generalize C2.put D2 (aw 2 3 true) = r3 at *
    obtain ⟨c3, C3, D3⟩ := r3
    dsimp only at *
    subst e3; subst e3'
    refine ygo ?_
    refine y (ev_neq rfl rfl) rfl ?_
    refine ypb ?_
    refine ymv ?_
    refine ygo ?_
    refine y (ev_load rfl Tryz.isAgg26 zin rfl) rfl ?_
    refine ygo ?_
    refine y (ev_build (zs := _) rfl Tryz.underlying31 Tryz.zeroValue31 rfl (.cons Tryz.sizeOf2 (.cons Tryz.sizeOf2 .nil)) ⟨⟨_, _, rfl, (by first | rfl | simp), (by first | decide | simp)⟩, ⟨⟨_, _, rfl, (by first | rfl | simp), (by first | decide | simp)⟩, trivial⟩⟩ (by dsimp [fillL, splice, vcells] <;> rfl)) rfl ?_
    refine ygo ?_
    refine ycall (kClean (C := C3) (q := q13) (D := D3) (b := 0) (e := 1) (s := 1) ?cok54 ?its54) rfl Tryz.call16 ztk rfl ?_
    case cok54 => exact aS3.s.g.ok
    case its54 => exact ok52
    rintro v L' ⟨sl58, rfl, ok58, rfl⟩
    obtain ⟨e4, aS4⟩ := aw_d aS3
    generalize C3.clean D3 0 1 1 = r4 at *
    obtain ⟨c4, C4, D4⟩ := r4
    dsimp only at *
    subst e4
    refine ygo ?_
    refine y (ev_neq rfl rfl) rfl ?_
    refine ypb ?_
    refine ymv ?_
    refine ygo ?_
    refine ymv ?_
    refine ygo ?_
    refine ycallF rfl (nAwPut (A := A18) (q := q13) (bc := b2) (D := D4) aS4.s.g.ok ok58) rfl Tryz.call35 ztk rfl ?_
    rintro v L' ⟨sl63, rfl, ok63, rfl⟩
    obtain ⟨e5, aS5⟩ := aw_e aS4
    generalize C4.put D4 (aw 2 3 true) = r5 at *
    obtain ⟨c5, C5, D5⟩ := r5
    dsimp only at *
    subst e5
    refine ygo ?_
    refine y (ev_neq rfl rfl) rfl ?_
    refine ypb ?_
    refine ymv ?_
    refine ygo ?_
    refine ymv ?_
    refine ygo ?_
    refine ycallF rfl (nAwPut (A := A18) (q := q13) (bc := b2) (D := D5) aS5.s.g.ok ok63) rfl Tryz.call35 ztk rfl ?_
    rintro v L' ⟨sl68, rfl, ok68, rfl⟩
    rw [aw_f aS5] at ok68 ⊢
    dsimp only at *
    refine ygo ?_
    refine y (ev_neq rfl rfl) rfl ?_
    refine ypb ?_
    refine ymv ?_
    refine ygo ?_
    refine y (ev_load rfl Tryz.isAgg26 zin rfl) rfl ?_
    refine ygo ?_
    refine ycall (kSync (A := A18) (C := C5) (sl := sl68) (q := q13) (D := D5) ?dok69) rfl Tryz.call36 ztk rfl ?_
    case dok69 => exact aS5.s.g.ok.d
    rintro v L' ⟨rfl, rfl⟩
    obtain ⟨e6, C6, D6, hop6, aS6⟩ := aw_g aS5
    rw [e6]
    refine ygo ?_
    refine y (ev_neq rfl rfl) rfl ?_
    refine ypb ?_
    refine ynil' (kthn (hK11 _ _ ?_))
    clear hK11
    refine ccond0 rfl ?_
    refine cskip' (kthn (hK10 _ _ ?_))
    clear hK10
    refine cseq ?_; intro K12 hK12
    refine creg ?_
    refine ymv ?_
    refine ycall (secCrash (ks := []) ?ok73 ?ks73) rfl Tryz.call31 ztk rfl ?_
    case ok73 => exact Dev.barrier_ok aS5.s.g.ok.d
    case ks73 => exact rdV_nil
    rintro v L' ⟨rfl, rfl⟩
    refine ynil' (kthn (hK12 _ _ ?_))
    clear hK12
    refine cseq ?_; intro K13 hK13
    refine creg ?_
    refine ymv ?_
    refine ycall (kOpenY (Dev.crash_ok (Dev.barrier_ok aS5.s.g.ok.d) _) (by decide) (by decide) hop6) rfl Tryz.call20 ztk rfl ?_
    rintro v L' ⟨A80, sl80, rfl, ok80, rfl⟩
    refine ymv ?_
    refine yxt ?_
    refine yxt ?_
    refine yas ?_
    refine yas ?_
    refine ynil' (kthn (hK13 _ _ ?_))
    clear hK13
    refine cseq ?_; intro K14 hK14
    refine cseq ?_; intro K15 hK15
    refine creg ?_
    refine ymv ?_
    skip
    ·skip
     refine y (ev_eqlPnil rfl rfl Tryz.underlying26) rfl ?_
     refine ymv ?_
     refine ygo ?_
     refine ymv ?_
     refine ygo ?_
     refine y (ev_neq rfl rfl) rfl ?_
     refine ypb ?_
     refine ynil' (kthn (hK15 _ _ ?_))
     clear hK15
     refine ccond0 rfl ?_
     refine cskip' (kthn (hK14 _ _ ?_))
     clear hK14
     refine cseq ?_; intro K16 hK16
     refine creg ?_
     refine ymv ?_
     refine ycall (kGet (C := C6)) rfl Tryz.call15 ztk rfl ?_
     rintro v L' ⟨rfl, rfl⟩
     rw [aS6.f, show awf4 0 = none from rfl]
     refine ymv ?_
     refine yxt ?_
     refine yxt ?_
     refine ya (ac_alloc Tryz.zeroValue34 rfl) rfl ?_
     rintro v L' ⟨b9, rfl, rfl⟩
     refine ya0 (ac_storeAll rfl rfl (ent_one _) Tryz.sizeOf34 zrp rfl rfl) ?_
     rintro v L' ⟨rfl, rfl⟩
     refine yas ?_
     refine ynil' (kthn (hK16 _ _ ?_))
     clear hK16
     refine cseq ?_; intro K17 hK17
     refine creg ?_
     refine ymv ?_
     refine ycall (kGet (C := C6)) rfl Tryz.call15 ztk rfl ?_
     rintro v L' ⟨rfl, rfl⟩
     rw [aS6.f, show awf4 2 = some (aw 2 3 true) from rfl]
     refine ymv ?_
     refine yxt ?_
     refine yxt ?_
     refine ya (ac_alloc Tryz.zeroValue34 rfl) rfl ?_
     rintro v L' ⟨b11, rfl, rfl⟩
     refine ya0 (ac_storeAll rfl rfl (ent_one (aw 2 3 true)) Tryz.sizeOf34 zrp rfl rfl) ?_
     rintro v L' ⟨rfl, rfl⟩
     refine yas ?_
     refine ynil' (kthn (hK17 _ _ ?_))
     clear hK17
     refine cseq ?_; intro K18 hK18
     refine creg ?_
     skip
     ·skip
      refine ymv ?_
      refine y (ev_not rfl) rfl ?_
      refine ymv ?_
      refine ygo ?_
      refine ymv ?_
      refine ypa ?_
      refine ymv ?_
      refine ygo ?_
      refine y (ev_fieldAddr 4 rfl Tryz.underlying34 rfl Tryz.sizeOf4) rfl ?_
      refine ygo ?_
      refine y (ev_load rfl Tryz.isAgg4 zin rfl) rfl ?_
      refine ypa ?_
      refine ymv ?_
      refine ygo ?_
      refine y (ev_fieldAddr 3 rfl Tryz.underlying34 rfl Tryz.sizeOf9) rfl ?_
      refine ygo ?_
      refine y (ev_load rfl Tryz.isAgg9 zin rfl) rfl ?_
      refine ygo ?_
      first
        | refine y (ev_eqlL rfl rfl) rfl ?_
        | refine y (ev_eqlS rfl rfl) rfl ?_
      refine ypa ?_
      refine ymv ?_
      refine ygo ?_
      refine ymv ?_
      refine ygo ?_
      refine ycall (kAll (C := C6) ?bl119) rfl Tryz.call17 ztk rfl ?_
      case bl119 => rw [aS6.s.g.bl]; decide
      rintro v L' ⟨s115, rfl, ok115, rfl⟩
      rw [aw_all aS6] at ok115 ⊢
      refine ygo ?_
      first
        | refine y (ev_len rfl Tryz.underlying41) rfl ?_
        | refine y (ev_lenSv rfl Tryz.underlying41 (by assumption)) rfl ?_
        | refine y (ev_lenV rfl Tryz.underlying41 (RdV.lenVal (by assumption))) rfl ?_
        | refine y (ev_lenV rfl Tryz.underlying41 (RdB.lenVal (by assumption))) rfl ?_
      refine ygo ?_
      refine y (ev_eql rfl rfl) rfl ?_
      refine ypa ?_
      refine ymv ?_
      refine ygo ?_
      refine ymv ?_
      refine ygo ?_
      refine ycall (kLast (C := C6)) rfl Tryz.call19 ztk rfl ?_
      rintro v L' ⟨rfl, rfl⟩
      rw [aS6.q]
      refine ygo ?_
      refine y (ev_build (zs := _) rfl Tryz.underlying31 Tryz.zeroValue31 rfl (.cons Tryz.sizeOf2 (.cons Tryz.sizeOf2 .nil)) ⟨⟨_, _, rfl, (by first | rfl | simp), (by first | decide | simp)⟩, ⟨⟨_, _, rfl, (by first | rfl | simp), (by first | decide | simp)⟩, trivial⟩⟩ (by dsimp [fillL, splice, vcells] <;> rfl)) rfl ?_
      refine ygo ?_
      refine y (ev_eqlF (p := True) (xs := [i64 1, i64 3]) (ys := [i64 1, i64 3]) rfl rfl (by kernel_rfl) (by simp)) rfl ?_
      refine ypa ?_
      refine ymv ?_
      refine ygo ?_
      refine ymv ?_
      refine ygo ?_
      refine ycall (kNumber (C := C6)) rfl Tryz.call18 ztk rfl ?_
      rintro v L' ⟨rfl, rfl⟩
      rw [aS6.q]
      refine ygo ?_
      refine y (ev_eql rfl rfl) rfl ?_
      refine ypa ?_
      refine ymv ?_
      refine ygo ?_
      refine ymv ?_
      refine ygo ?_
      refine ycall (kDrop (C := C6) (sl := sl80) (q := q13) (D := D6) ?cok136 ?its136) rfl Tryz.call37 ztk rfl ?_
      case cok136 => exact aS6.s.g.ok
      case its136 => exact ok80
      rintro v L' ⟨sl132, rfl, ok132, rfl⟩
      have hdr : C6.drop D6 0 = (10, C6, D6) := by unfold CaM.drop; rw [aS6.f, show awf4 0 = none from rfl, if_neg (by simp)]
      rw [hdr] at ok132 ⊢
      dsimp only at *
      refine ygo ?_
      refine y (ev_eql rfl rfl) rfl ?_
      refine ypa ?_
      refine ymv ?_
      refine ygo ?_
      refine ymv ?_
      refine ygo ?_
      refine y (ev_build (zs := _) rfl Tryz.underlying31 Tryz.zeroValue31 rfl (.cons Tryz.sizeOf2 (.cons Tryz.sizeOf2 .nil)) trivial (by dsimp [fillL, splice, vcells] <;> rfl)) rfl ?_
      refine ygo ?_
      refine ycall (kNote (C := C6) (sl := sl132) (q := q13) (D := D6) (e := 0) (s := 0) (ns := []) ?cok142 ?its142 ?hv142 ?hl142) rfl Tryz.call29 ztk rfl ?_
      case cok142 => exact aS6.s.g.ok
      case its142 => exact ok132
      case hv142 => exact rdV_nil
      case hl142 => decide
      rintro v L' ⟨sl138, rfl, ok138, rfl⟩
      have hnt : C6.note D6 0 0 [] = (1, C6, D6) := by unfold CaM.note; rw [if_pos (by unfold wrongV; simp)]
      rw [hnt] at ok138 ⊢
      dsimp only at *
      refine ygo ?_
      refine y (ev_eql rfl rfl) rfl ?_
      refine ypa ?_
      refine yas ?_
      refine ynil' (kthn (hK18 _ _ ?_))
      clear hK18
      refine cret ?_
      first
        | (exfalso; omega; done)
        | (refine kretv Tryz.results11 rfl (L1 := R) zge ?_
           exact ⟨_, ⟨by rfl, rfl⟩, by rfl⟩)
end W
end Go.Proofs
namespace Go.Sl
set_option linter.unusedSimpArgs false
/-- No entry is above the greatest version. -/
def LowE (f : Int → Option EntM) (k : KeptM) : Prop := ∀ i y, f i = some y → aboveV y.ve y.vs k.e k.s = false
structure RiseT (t u : T4) : Prop where
  a : t.a ≤ u.a
  b : t.b ≤ u.b
  c : t.c ≤ u.c
  d : t.d ≤ u.d
theorem RiseT.refl (t : T4) : RiseT t t := ⟨Int.le_refl _, Int.le_refl _, Int.le_refl _, Int.le_refl _⟩
theorem LowE.all {C : CaM} (h : LowE (aget C.en) C.k) {y : EntM} (hy : y ∈ C.all) : aboveV y.ve y.vs C.k.e C.k.s = false := by
  obtain ⟨i, _, hg⟩ := all_mem hy
  exact h _ _ hg
def placeM (n : Nat) (C : CaM) (kind b : Int) : Bool := decide (kind = 0) && (!(aget C.en b).isSome && decide ((n : Int) - 6 ≤ C.all.length))
/-- What became of the other entries: at most one, which was clean, went for a place. -/
structure ApartR (n : Nat) (C : CaM) (kind : Int) (x : EntM) (f : Int → Option EntM) (b : Int) : Prop where
  all : ∀ y, aget C.en y.blk = some y → ¬ (kind ≤ 2 ∧ y.blk = x.blk) → f y.blk = some y ∨ (y.blk = b ∧ f y.blk = none ∧ placeM n C kind x.blk = true ∧ y.dirty = false)
theorem CaS.apart {m n k : Nat} {C : CaM} {D : Dev} (s : CaS m n k C D) (hk : k < 4611686018427380000) (hn : n ≤ 40) (kind : Int) (x : EntM) (ns : List Int) : ∃ b, ApartR n C kind x (aget (Go.Sl.doM C D kind x ns).2.1.en) b := by
  have same : ∀ f, f = aget C.en → ApartR n C kind x f 0 := fun f hf => ⟨fun y hy _ => .inl (by rw [hf]; exact hy)⟩
  unfold Go.Sl.doM
  split
  · rename_i h0
    obtain ⟨-, h2⟩ := s.put hk hn x
    revert h2
    generalize (C.put D x).1 = e
    generalize aget (C.put D x).2.1.en = f
    generalize (C.put D x).2.1.k = q
    intro h2
    cases h2 with
    | bad => exact ⟨0, same _ rfl⟩
    | put => exact ⟨0, ⟨fun y hy hne => .inl (by unfold updE; rw [if_neg (fun e => hne ⟨by omega, e⟩)]; exact hy)⟩⟩
    | full => exact ⟨0, same _ rfl⟩
    | @place _ _ hh0 hh1 z hz hzd =>
      refine ⟨z.blk, ⟨fun y hy hne => ?_⟩⟩
      have hyx : ¬ y.blk = x.blk := fun e => hne ⟨by omega, e⟩
      by_cases hyz : y.blk = z.blk
      · refine .inr ⟨hyz, ?_, ?_, ?_⟩
        · unfold updE delE; rw [if_neg hyx, if_pos hyz]
        · have hc : C.all.length = C.en.length := by rw [all_cnt, en_len s.g.ok]
          unfold placeM
          rw [hh0, decide_eq_true h0, hc]
          simp; omega
        · rw [hyz, hz] at hy; cases hy; exact hzd
      · left; unfold updE delE; rw [if_neg hyx, if_neg hyz]; exact hy
  rename_i h0
  split
  · rename_i h1
    obtain ⟨-, h2, -⟩ := s.clean hk hn x.blk x.ve x.vs
    revert h2
    generalize (C.clean D x.blk x.ve x.vs).1 = e
    generalize aget (C.clean D x.blk x.ve x.vs).2.1.en = f
    intro h2
    cases h2 with
    | none => exact ⟨0, same _ rfl⟩
    | was => exact ⟨0, same _ rfl⟩
    | @did z hz hv hd =>
      have hzb := (ok_get s.g.ok hz).2
      exact ⟨0, ⟨fun y hy hne => .inl (by unfold updE; rw [if_neg (fun e => hne ⟨by omega, e.trans hzb⟩)]; exact hy)⟩⟩
  rename_i h1
  split
  · rename_i h2
    obtain ⟨-, h3, -⟩ := s.drop hk hn x.blk
    rcases h3 with ⟨_, _, e⟩ | ⟨_, _, e⟩
    · rw [e]; exact ⟨0, same _ rfl⟩
    · rw [e]; exact ⟨0, ⟨fun y hy hne => .inl (by unfold delE; rw [if_neg (fun e => hne ⟨by omega, e⟩)]; exact hy)⟩⟩
  split
  · obtain ⟨-, h2⟩ := s.note hk hn x.ve x.vs ns
    rcases h2 with ⟨_, h2⟩ | ⟨_, _, h2, _⟩
    · rw [h2]; exact ⟨0, same _ rfl⟩
    · rw [h2]; exact ⟨0, same _ rfl⟩
  split
  · obtain ⟨-, h2⟩ := s.reset hk hn x.ve x.vs ns
    rcases h2 with ⟨_, h2⟩ | ⟨_, _, h2, _⟩
    · rw [h2]; exact ⟨0, same _ rfl⟩
    · rw [h2]; exact ⟨0, same _ rfl⟩
  split
  · exact ⟨0, same _ rfl⟩
  · exact ⟨0, same _ rfl⟩
theorem all_nodup {C : CaM} {D : Dev} (h : C.ok D) : (C.all.map (·.blk)).Nodup := by
  have hnd : ∀ k, ((allTo C k).map (·.blk)).Nodup ∧ ∀ x ∈ allTo C k, x.blk < k := by
    intro k
    induction k with
    | zero => exact ⟨by simp [allTo], fun x hx => by simp [allTo] at hx⟩
    | succ k ih =>
      rw [allTo_succ]
      cases hg : aget C.en (k : Nat) with
      | none => exact ⟨ih.1, fun x hx => by have := ih.2 x hx; omega⟩
      | some y =>
        have hy := (ok_get h hg).2
        dsimp only
        refine ⟨?_, fun x hx => ?_⟩
        · rw [List.map_append, List.nodup_append]
          refine ⟨ih.1, by simp, ?_⟩
          intro a ha b hb
          simp only [List.map_cons, List.map_nil, List.mem_singleton] at hb
          obtain ⟨x, hx, rfl⟩ := List.mem_map.1 ha
          have := ih.2 x hx
          omega
        · rcases List.mem_append.1 hx with hx | hx
          · have := ih.2 x hx; omega
          · simp only [List.mem_singleton] at hx; subst hx; omega
  exact (hnd C.bl).1
/-- How many went, so far. -/
structure Gone (C : CaM) (b : Int) (i g : Nat) : Prop where
  le : g ≤ 1
  in' : g = 1 → b ∈ (C.all.take i).map (·.blk)
theorem Gone.step {C : CaM} {b : Int} {i g : Nat} (h : Gone C b i g) : Gone C b (i + 1) g :=
  ⟨h.le, fun e => by obtain ⟨x, hx, e2⟩ := List.mem_map.1 (h.in' e); exact List.mem_map.2 ⟨x, (List.take_subset_take_left C.all (by omega)) hx, e2⟩⟩
theorem Gone.more {C : CaM} {D : Dev} (hC : C.ok D) {b : Int} {i g : Nat} (h : Gone C b i g) {y : EntM} (hy : C.all[i]? = some y) (e : y.blk = b) : Gone C b (i + 1) (g + 1) := by
  have hi : i < C.all.length := (List.getElem?_eq_some_iff.1 hy).1
  have hn := all_nodup hC
  have hmem : b ∈ (C.all.take (i + 1)).map (·.blk) := by
    rw [List.take_add_one, hy]; simp [e]
  refine ⟨?_, fun _ => hmem⟩
  rcases Nat.lt_or_ge g 1 with h1 | h1
  · omega
  · exfalso
    have hg : g = 1 := by have := h.le; omega
    have h2 := h.in' hg
    have h3 : C.all = C.all.take i ++ y :: C.all.drop (i + 1) := by
      have := List.take_append_drop i C.all
      rw [List.drop_eq_getElem_cons hi] at this
      rw [(List.getElem?_eq_some_iff.1 hy).2] at this
      exact this.symm
    rw [h3, List.map_append, List.nodup_append] at hn
    exact hn.2.2 b h2 b (by simp [e]) rfl
end Go.Sl
namespace Go.Proofs
open Go Go.Sl
namespace W
set_option linter.unusedVariables false
theorem told_one' (s : Sv) (m : Nat) (a b c d e f : Int) : ∀ u ∈ [svVal s m, i64 a, i64 b, i64 c, i64 d, i64 e, i64 f], u.oneCell' = true := by
 intro u hu
 simp only [List.mem_cons, List.not_mem_nil, or_false] at hu
 rcases hu with rfl | rfl | rfl | rfl | rfl | rfl | rfl
 · exact svVal_one _ _
 all_goals rfl
end W
end Go.Proofs
namespace Go.Proofs
open Go Go.Sl
namespace W
set_option linter.unusedVariables false
end W
end Go.Proofs
