/- A part of the proof: contracts and plain lemmas, each without conditions beyond those that it names. -/
import Derived.Test.YtediodfmkbfomaaGreatC14
set_option linter.unusedVariables false
set_option linter.unusedSimpArgs false
set_option linter.constructorNameAsVariable false
namespace Go.Proofs
open Go Go.Sl
namespace W
set_option linter.unusedVariables false
set_option maxHeartbeats 2000000 in
theorem awake9 [Env] {R : List Seg} : Con Tryz.prog 11 [] [] R (Is (.bool true) []) := by
  obtain ⟨C18, D18, hop0, hS0, hv0⟩ := new_cas (m := 4) (n := 8) (by decide) (by decide)
  have hop : caOpen (Dev.new 10) 2 8 0 1 4 = (0, C18, D18) := hop0
  have aS0 : AwS 1 (fun _ => none) ⟨0, 0, ⟨0, 0, 0, 0⟩⟩ C18 D18 := ⟨hS0, congrArg CaV.en hv0, congrArg CaV.k hv0⟩
  refine con_enter Tryz.func11 Tryz.ntmps11 rfl rfl ?_
  refine cseq ?_; intro K1 hK1
  refine creg ?_
  refine y (ev_assign rfl) rfl ?_
  refine ynil' (kthn (hK1 _ _ ?_))
  clear hK1
  refine cseq ?_; intro K2 hK2
  refine creg ?_
  refine ycall (secNew (n := 10) (by omega)) rfl Tryz.call34 ztk rfl ?_
  rintro v L' ⟨q13, rfl, rfl⟩
  refine y (ev_assign rfl) rfl ?_
  refine ynil' (kthn (hK2 _ _ ?_))
  clear hK2
  refine cseq ?_; intro K3 hK3
  refine cseq ?_; intro K4 hK4
  refine creg ?_
  refine y (ev_move rfl) rfl ?_
  skip
  ·skip
   refine y (ev_eqlPnil rfl rfl Tryz.underlying25) rfl ?_
   refine ynil' (kthn (hK4 _ _ ?_))
   clear hK4
   refine ccond0 rfl ?_
   refine cskip' (kthn (hK3 _ _ ?_))
   clear hK3
   refine cseq ?_; intro K5 hK5
   refine creg ?_
   refine y (ev_move rfl) rfl ?_
   refine ycall (kOpenY (Dev.new_ok (by decide)) (by decide) (by decide) hop) rfl Tryz.call20 ztk rfl ?_
   rintro v L' ⟨A18, sl18, rfl, ok18, rfl⟩
   refine y (ev_move rfl) rfl ?_
   refine y (ev_extract rfl rfl) rfl ?_
   refine y (ev_extract rfl rfl) rfl ?_
   refine ya (ac_alloc Tryz.zeroValue26 rfl) rfl ?_
   rintro v L' ⟨b2, rfl, rfl⟩
   refine ya0 (ac_store rfl rfl (by first | rfl | exact svVal_one _ _ | assumption) Tryz.sizeOf26 zrp rfl rfl) ?_
   rintro v L' ⟨rfl, rfl⟩
   refine y (ev_assign rfl) rfl ?_
   refine ynil' (kthn (hK5 _ _ ?_))
   clear hK5
   refine cseq ?_; intro K6 hK6
   refine creg ?_
   refine y (ev_move rfl) rfl ?_
   refine ycall (kOpenN hS0.g.ok.d (by decide) (by decide) (by decide)) rfl Tryz.call20 ztk rfl ?_
   rintro v L' ⟨rfl, rfl⟩
   refine y (ev_move rfl) rfl ?_
   refine y (ev_extract rfl rfl) rfl ?_
   refine y (ev_extract rfl rfl) rfl ?_
   refine y (ev_assign rfl) rfl ?_
   refine y (ev_assign rfl) rfl ?_
   refine ynil' (kthn (hK6 _ _ ?_))
   clear hK6
   refine cseq ?_; intro K7 hK7
   refine cseq ?_; intro K8 hK8
   refine creg ?_
   refine y (ev_load rfl Tryz.isAgg26 zin rfl) rfl ?_
   skip
   ·skip
    refine y (ev_eqlPnil rfl rfl Tryz.underlying26) rfl ?_
    refine y (ev_move rfl) rfl ?_
    refine yg1 rfl rfl ?_
    refine y (ev_move rfl) rfl ?_
    refine yg1 rfl rfl ?_
    refine y (ev_neq rfl rfl) rfl ?_
    refine y (ev_pick0 rfl rfl) rfl ?_
    refine y (ev_move rfl) rfl ?_
    refine yg1 rfl rfl ?_
    refine y (ev_move rfl) rfl ?_
    refine yg1 rfl rfl ?_
    refine y (ev_neq rfl rfl) rfl ?_
    refine y (ev_pick0 rfl rfl) rfl ?_
    refine y (ev_move rfl) rfl ?_
    refine yg1 rfl rfl ?_
    refine y (ev_load rfl Tryz.isAgg26 zin rfl) rfl ?_
    refine yg1 rfl rfl ?_
    refine ycall (kRoom (C := C18) ?rn33) rfl Tryz.call14 ztk rfl ?_
    case rn33 => have := hS0.g.nn; omega
    rintro v L' ⟨rfl, rfl⟩
    rw [show ((C18.n : Int) - 6) = 2 by have := hS0.g.nn; omega]
    refine yg1 rfl rfl ?_
    refine y (ev_neq rfl rfl) rfl ?_
    refine y (ev_pick0 rfl rfl) rfl ?_
    refine ynil' (kthn (hK8 _ _ ?_))
    clear hK8
    refine ccond0 rfl ?_
    refine cskip' (kthn (hK7 _ _ ?_))
    clear hK7
    refine cseq ?_; intro K9 hK9
    refine creg ?_
    refine y (ev_mkFunc (vs := #[ptr b2]) (fun a hf => by
        have h1 : a.eval (.tmp 2) = ptr b2 := hf.ev rfl
        simp [h1])) rfl ?_
    refine y (ev_assign rfl) rfl ?_
    refine ynil' (kthn (hK9 _ _ ?_))
    clear hK9
    refine cseq ?_; intro K10 hK10
    refine cseq ?_; intro K11 hK11
    refine creg ?_
    skip
    ·skip
     refine y (ev_move rfl) rfl ?_
     refine ycallF rfl (nAwPut (A := A18) (q := q13) (bc := b2) (D := D18) aS0.s.g.ok ok18) rfl Tryz.call35 ztk rfl ?_
     rintro v L' ⟨sl43, rfl, ok43, rfl⟩
     obtain ⟨e1, aS1⟩ := aw_a hS0 hv0
     generalize C18.put D18 (aw 0 1 true) = r1 at *
     obtain ⟨c1, C1, D1⟩ := r1
     dsimp only at *
     subst e1
     refine y (ev_neq rfl rfl) rfl ?_
     refine y (ev_move rfl) rfl ?_
     refine yg1 rfl rfl ?_
     refine y (ev_move rfl) rfl ?_
     refine yg1 rfl rfl ?_
     refine ycallF rfl (nAwPut (A := A18) (q := q13) (bc := b2) (D := D1) aS1.s.g.ok ok43) rfl Tryz.call35 ztk rfl ?_
     rintro v L' ⟨sl47, rfl, ok47, rfl⟩
     obtain ⟨e2, aS2⟩ := aw_b aS1
     generalize C1.put D1 (aw 1 2 true) = r2 at *
     obtain ⟨c2, C2, D2⟩ := r2
     dsimp only at *
     subst e2
     refine yg1 rfl rfl ?_
     refine y (ev_neq rfl rfl) rfl ?_
     refine y (ev_pick0 rfl rfl) rfl ?_
     refine y (ev_move rfl) rfl ?_
     refine yg1 rfl rfl ?_
     refine y (ev_move rfl) rfl ?_
     refine yg1 rfl rfl ?_
     refine ycallF rfl (nAwPut (A := A18) (q := q13) (bc := b2) (D := D2) aS2.s.g.ok ok47) rfl Tryz.call35 ztk rfl ?_
     rintro v L' ⟨sl52, rfl, ok52, rfl⟩
     obtain ⟨e3, e3', aS3⟩ := aw_c aS2
     generalize C2.put D2 (aw 2 3 true) = r3 at *
     obtain ⟨c3, C3, D3⟩ := r3
     dsimp only at *
     subst e3; subst e3'
     refine yg1 rfl rfl ?_
     refine y (ev_neq rfl rfl) rfl ?_
     refine y (ev_pick0 rfl rfl) rfl ?_
     refine y (ev_move rfl) rfl ?_
     refine yg1 rfl rfl ?_
     refine y (ev_load rfl Tryz.isAgg26 zin rfl) rfl ?_
     refine yg1 rfl rfl ?_
     refine y (ev_build (zs := _) rfl Tryz.underlying31 Tryz.zeroValue31 rfl (.cons Tryz.sizeOf2 (.cons Tryz.sizeOf2 .nil)) ⟨⟨_, _, rfl, (by first | rfl | simp), (by first | decide | simp)⟩, ⟨⟨_, _, rfl, (by first | rfl | simp), (by first | decide | simp)⟩, trivial⟩⟩ (by dsimp [fillL, splice, vcells] <;> rfl)) rfl ?_
     refine yg1 rfl rfl ?_
     refine ycall (kClean (C := C3) (q := q13) (D := D3) (b := 0) (e := 1) (s := 1) ?cok54 ?its54) rfl Tryz.call16 ztk rfl ?_
     case cok54 => exact aS3.s.g.ok
     case its54 => exact ok52
     rintro v L' ⟨sl58, rfl, ok58, rfl⟩
     obtain ⟨e4, aS4⟩ := aw_d aS3
     generalize C3.clean D3 0 1 1 = r4 at *
     obtain ⟨c4, C4, D4⟩ := r4
     dsimp only at *
     subst e4
     refine yg1 rfl rfl ?_
     refine y (ev_neq rfl rfl) rfl ?_
     refine y (ev_pick0 rfl rfl) rfl ?_
     refine y (ev_move rfl) rfl ?_
     refine yg1 rfl rfl ?_
     refine y (ev_move rfl) rfl ?_
     refine yg1 rfl rfl ?_
     refine ycallF rfl (nAwPut (A := A18) (q := q13) (bc := b2) (D := D4) aS4.s.g.ok ok58) rfl Tryz.call35 ztk rfl ?_
     rintro v L' ⟨sl63, rfl, ok63, rfl⟩
     obtain ⟨e5, aS5⟩ := aw_e aS4
     generalize C4.put D4 (aw 2 3 true) = r5 at *
     obtain ⟨c5, C5, D5⟩ := r5
     dsimp only at *
     subst e5
     refine yg1 rfl rfl ?_
     refine y (ev_neq rfl rfl) rfl ?_
     refine y (ev_pick0 rfl rfl) rfl ?_
     refine y (ev_move rfl) rfl ?_
     refine yg1 rfl rfl ?_
     refine y (ev_move rfl) rfl ?_
     refine yg1 rfl rfl ?_
     refine ycallF rfl (nAwPut (A := A18) (q := q13) (bc := b2) (D := D5) aS5.s.g.ok ok63) rfl Tryz.call35 ztk rfl ?_
     rintro v L' ⟨sl68, rfl, ok68, rfl⟩
     rw [aw_f aS5] at ok68 ⊢
     dsimp only at *
     refine yg1 rfl rfl ?_
     refine y (ev_neq rfl rfl) rfl ?_
     refine y (ev_pick0 rfl rfl) rfl ?_
     refine y (ev_move rfl) rfl ?_
     refine yg1 rfl rfl ?_
     refine y (ev_load rfl Tryz.isAgg26 zin rfl) rfl ?_
     refine yg1 rfl rfl ?_
     refine ycall (kSync (A := A18) (C := C5) (sl := sl68) (q := q13) (D := D5) ?dok69) rfl Tryz.call36 ztk rfl ?_
     case dok69 => exact aS5.s.g.ok.d
     rintro v L' ⟨rfl, rfl⟩
     obtain ⟨e6, C6, D6, hop6, aS6⟩ := aw_g aS5
     rw [e6]
     refine yg1 rfl rfl ?_
     refine y (ev_neq rfl rfl) rfl ?_
     refine y (ev_pick0 rfl rfl) rfl ?_
     refine ynil' (kthn (hK11 _ _ ?_))
     clear hK11
     refine ccond0 rfl ?_
     refine cskip' (kthn (hK10 _ _ ?_))
     clear hK10
     refine cseq ?_; intro K12 hK12
     refine creg ?_
     refine y (ev_move rfl) rfl ?_
     refine ycall (secCrash (ks := []) ?ok73 ?ks73) rfl Tryz.call31 ztk rfl ?_
     case ok73 => exact Dev.barrier_ok aS5.s.g.ok.d
     case ks73 => exact rdV_nil
     rintro v L' ⟨rfl, rfl⟩
     refine ynil' (kthn (hK12 _ _ ?_))
     clear hK12
     refine cseq ?_; intro K13 hK13
     refine creg ?_
     refine y (ev_move rfl) rfl ?_
     refine ycall (kOpenY (Dev.crash_ok (Dev.barrier_ok aS5.s.g.ok.d) _) (by decide) (by decide) hop6) rfl Tryz.call20 ztk rfl ?_
     rintro v L' ⟨A80, sl80, rfl, ok80, rfl⟩
     refine y (ev_move rfl) rfl ?_
     refine y (ev_extract rfl rfl) rfl ?_
     refine y (ev_extract rfl rfl) rfl ?_
     refine y (ev_assign rfl) rfl ?_
     refine y (ev_assign rfl) rfl ?_
     refine ynil' (kthn (hK13 _ _ ?_))
     clear hK13
     refine cseq ?_; intro K14 hK14
     refine cseq ?_; intro K15 hK15
     refine creg ?_
     refine y (ev_move rfl) rfl ?_
     skip
     ·skip
      refine y (ev_eqlPnil rfl rfl Tryz.underlying26) rfl ?_
      refine y (ev_move rfl) rfl ?_
      refine yg1 rfl rfl ?_
      refine y (ev_move rfl) rfl ?_
      refine yg1 rfl rfl ?_
      refine y (ev_neq rfl rfl) rfl ?_
      refine y (ev_pick0 rfl rfl) rfl ?_
      refine ynil' (kthn (hK15 _ _ ?_))
      clear hK15
      refine ccond0 rfl ?_
      refine cskip' (kthn (hK14 _ _ ?_))
      clear hK14
      refine cseq ?_; intro K16 hK16
      refine creg ?_
      refine y (ev_move rfl) rfl ?_
      refine ycall (kGet (C := C6)) rfl Tryz.call15 ztk rfl ?_
      rintro v L' ⟨rfl, rfl⟩
      rw [aS6.f, show awf4 0 = none from rfl]
      refine y (ev_move rfl) rfl ?_
      refine y (ev_extract rfl rfl) rfl ?_
      refine y (ev_extract rfl rfl) rfl ?_
      refine ya (ac_alloc Tryz.zeroValue34 rfl) rfl ?_
      rintro v L' ⟨b9, rfl, rfl⟩
      refine ya0 (ac_storeAll rfl rfl (ent_one _) Tryz.sizeOf34 zrp rfl rfl) ?_
      rintro v L' ⟨rfl, rfl⟩
      refine y (ev_assign rfl) rfl ?_
      refine ynil' (kthn (hK16 _ _ ?_))
      clear hK16
      refine cseq ?_; intro K17 hK17
      refine creg ?_
      refine y (ev_move rfl) rfl ?_
      refine ycall (kGet (C := C6)) rfl Tryz.call15 ztk rfl ?_
      rintro v L' ⟨rfl, rfl⟩
      rw [aS6.f, show awf4 2 = some (aw 2 3 true) from rfl]
      refine y (ev_move rfl) rfl ?_
      refine y (ev_extract rfl rfl) rfl ?_
      refine y (ev_extract rfl rfl) rfl ?_
      refine ya (ac_alloc Tryz.zeroValue34 rfl) rfl ?_
      rintro v L' ⟨b11, rfl, rfl⟩
      refine ya0 (ac_storeAll rfl rfl (ent_one (aw 2 3 true)) Tryz.sizeOf34 zrp rfl rfl) ?_
      rintro v L' ⟨rfl, rfl⟩
      refine y (ev_assign rfl) rfl ?_
      refine ynil' (kthn (hK17 _ _ ?_))
      clear hK17
      refine cseq ?_; intro K18 hK18
      refine creg ?_
      skip
      ·skip
       refine y (ev_move rfl) rfl ?_
       refine y (ev_not rfl) rfl ?_
       refine y (ev_move rfl) rfl ?_
       refine yg1 rfl rfl ?_
       refine y (ev_move rfl) rfl ?_
       refine y (ev_pick1 rfl rfl) rfl ?_
       refine y (ev_move rfl) rfl ?_
       refine yg1 rfl rfl ?_
       refine y (ev_fieldAddr 4 rfl Tryz.underlying34 rfl Tryz.sizeOf4) rfl ?_
       refine yg1 rfl rfl ?_
       refine y (ev_load rfl Tryz.isAgg4 zin rfl) rfl ?_
       refine y (ev_pick1 rfl rfl) rfl ?_
       refine y (ev_move rfl) rfl ?_
       refine yg1 rfl rfl ?_
       refine y (ev_fieldAddr 3 rfl Tryz.underlying34 rfl Tryz.sizeOf9) rfl ?_
       refine yg1 rfl rfl ?_
       refine y (ev_load rfl Tryz.isAgg9 zin rfl) rfl ?_
       refine yg1 rfl rfl ?_
       first
         | refine y (ev_eqlL rfl rfl) rfl ?_
         | refine y (ev_eqlS rfl rfl) rfl ?_
       refine y (ev_pick1 rfl rfl) rfl ?_
       refine y (ev_move rfl) rfl ?_
       refine yg1 rfl rfl ?_
       refine y (ev_move rfl) rfl ?_
       refine yg1 rfl rfl ?_
       refine ycall (kAll (C := C6) ?bl119) rfl Tryz.call17 ztk rfl ?_
       case bl119 => rw [aS6.s.g.bl]; decide
       rintro v L' ⟨s115, rfl, ok115, rfl⟩
       rw [aw_all aS6] at ok115 ⊢
       refine yg1 rfl rfl ?_
       first
         | refine y (ev_len rfl Tryz.underlying41) rfl ?_
         | refine y (ev_lenSv rfl Tryz.underlying41 (by assumption)) rfl ?_
         | refine y (ev_lenV rfl Tryz.underlying41 (RdV.lenVal (by assumption))) rfl ?_
         | refine y (ev_lenV rfl Tryz.underlying41 (RdB.lenVal (by assumption))) rfl ?_
       refine yg1 rfl rfl ?_
       refine y (ev_eql rfl rfl) rfl ?_
       refine y (ev_pick1 rfl rfl) rfl ?_
       refine y (ev_move rfl) rfl ?_
       refine yg1 rfl rfl ?_
       refine y (ev_move rfl) rfl ?_
       refine yg1 rfl rfl ?_
       refine ycall (kLast (C := C6)) rfl Tryz.call19 ztk rfl ?_
       rintro v L' ⟨rfl, rfl⟩
       rw [aS6.q]
       refine yg1 rfl rfl ?_
       refine y (ev_build (zs := _) rfl Tryz.underlying31 Tryz.zeroValue31 rfl (.cons Tryz.sizeOf2 (.cons Tryz.sizeOf2 .nil)) ⟨⟨_, _, rfl, (by first | rfl | simp), (by first | decide | simp)⟩, ⟨⟨_, _, rfl, (by first | rfl | simp), (by first | decide | simp)⟩, trivial⟩⟩ (by dsimp [fillL, splice, vcells] <;> rfl)) rfl ?_
       refine yg1 rfl rfl ?_
       refine y (ev_eqlF (p := True) (xs := [i64 1, i64 3]) (ys := [i64 1, i64 3]) rfl rfl (by kernel_rfl) (by simp)) rfl ?_
       refine y (ev_pick1 rfl rfl) rfl ?_
       refine y (ev_move rfl) rfl ?_
       refine yg1 rfl rfl ?_
       refine y (ev_move rfl) rfl ?_
       refine yg1 rfl rfl ?_
       refine ycall (kNumber (C := C6)) rfl Tryz.call18 ztk rfl ?_
       rintro v L' ⟨rfl, rfl⟩
       rw [aS6.q]
       refine yg1 rfl rfl ?_
       refine y (ev_eql rfl rfl) rfl ?_
       refine y (ev_pick1 rfl rfl) rfl ?_
       refine y (ev_move rfl) rfl ?_
       refine yg1 rfl rfl ?_
       refine y (ev_move rfl) rfl ?_
       refine yg1 rfl rfl ?_
       refine ycall (kDrop (C := C6) (sl := sl80) (q := q13) (D := D6) ?cok136 ?its136) rfl Tryz.call37 ztk rfl ?_
       case cok136 => exact aS6.s.g.ok
       case its136 => exact ok80
       rintro v L' ⟨sl132, rfl, ok132, rfl⟩
       have hdr : C6.drop D6 0 = (10, C6, D6) := by unfold CaM.drop; rw [aS6.f, show awf4 0 = none from rfl, if_neg (by simp)]
       rw [hdr] at ok132 ⊢
       dsimp only at *
       refine yg1 rfl rfl ?_
       refine y (ev_eql rfl rfl) rfl ?_
       refine y (ev_pick1 rfl rfl) rfl ?_
       refine y (ev_move rfl) rfl ?_
       refine yg1 rfl rfl ?_
       refine y (ev_move rfl) rfl ?_
       refine yg1 rfl rfl ?_
       refine y (ev_build (zs := _) rfl Tryz.underlying31 Tryz.zeroValue31 rfl (.cons Tryz.sizeOf2 (.cons Tryz.sizeOf2 .nil)) trivial (by dsimp [fillL, splice, vcells] <;> rfl)) rfl ?_
       refine yg1 rfl rfl ?_
       refine ycall (kNote (C := C6) (sl := sl132) (q := q13) (D := D6) (e := 0) (s := 0) (ns := []) ?cok142 ?its142 ?hv142 ?hl142) rfl Tryz.call29 ztk rfl ?_
       case cok142 => exact aS6.s.g.ok
       case its142 => exact ok132
       case hv142 => exact rdV_nil
       case hl142 => decide
       rintro v L' ⟨sl138, rfl, ok138, rfl⟩
       have hnt : C6.note D6 0 0 [] = (1, C6, D6) := by unfold CaM.note; rw [if_pos (by unfold wrongV; simp)]
       rw [hnt] at ok138 ⊢
       dsimp only at *
       refine yg1 rfl rfl ?_
       refine y (ev_eql rfl rfl) rfl ?_
       refine y (ev_pick1 rfl rfl) rfl ?_
       refine y (ev_assign rfl) rfl ?_
       refine ynil' (kthn (hK18 _ _ ?_))
       clear hK18
       refine cret ?_
       first
         | (exfalso; omega; done)
         | (refine kretv Tryz.results11 rfl (L1 := R) zge ?_
            exact ⟨_, ⟨by rfl, rfl⟩, by rfl⟩)
end W
end Go.Proofs
