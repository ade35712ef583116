/- A part of the proof: contracts and plain lemmas, each without conditions beyond those that it names. -/
import Derived.Test.YtebijajimmjknaaGreatZ9
set_option linter.unusedVariables false
set_option linter.unusedSimpArgs false
set_option linter.constructorNameAsVariable false
namespace Go.Proofs
open Go Go.Sl
namespace W
set_option linter.unusedVariables false
theorem storeR_tok (S : StoM) (E : RDev) (m : MsgM) : (S.storeR E m).2.1.tok = S.tok ∧ (S.storeR E m).2.1.bs.length = S.bs.length := by
 unfold StoM.storeR
 split
 · exact ⟨rfl, rfl⟩
 · split
   · exact ⟨rfl, rfl⟩
   · split
     · exact ⟨rfl, rfl⟩
     · dsimp only; refine ⟨rfl, ?_⟩; split <;> simp
set_option maxHeartbeats 2000000 in
theorem xbTake [Env] {R : List Seg} {s c b cap p la : Nat} {sp : List Value} {ps : List Nat} {S : StoM} {D : Dev} {E : RDev} {m : MsgM} (hS : S.ok D ps) (hR : Rel D E) :
   Con Tryz.prog 33 [ptr s, .agg m.cells.toArray] [rsP s c (bkV b S.bs.length cap) S, rsB b sp ps S.bs, rcelP c p S.tok, rcelsP ps p S.cs, rdev p la E] R
     (Is (.tuple #[.agg (S.takeR E m).1.1.cells.toArray, .bool (S.takeR E m).1.2]) [rsP s c (bkV b S.bs.length cap) (S.takeR E m).2.1, rsB b sp ps (S.takeR E m).2.1.bs, rcelP c p (S.takeR E m).2.1.tok, rcelsP ps p (S.takeR E m).2.1.cs, rdev p la (S.takeR E m).2.2]) := by
 refine con_enter Tryz.func33 Tryz.ntmps33 rfl rfl ?_
 refine cseq ?_; intro K1 hK1
 refine creg ?_
 refine ya (ac_box (vs := m.cells) rfl rfl) rfl ?_
 rintro v L' ⟨b3, rfl, rfl⟩
 refine ya (ac_alloc Tryz.zeroValue37 rfl) rfl ?_
 rintro v L' ⟨b4, rfl, rfl⟩
 refine yas ?_
 refine ynil' (kthn (hK1 _ _ ?_))
 clear hK1
 refine cseq ?_; intro K2 hK2
 have hJr3 : ∀ x : Unit, (m.may = true ∧ (m.kind = 10 ∨ m.kind = 12)) → Sk 117 K2 ([(0, ptr s), (3, ptr b3), (4, ptr b4), (5, .bool false)]) ([sc b4 MsgM.zero.cells 37, sc b3 m.cells 37, rsP s c (bkV b S.bs.length cap) S, rsB b sp ps S.bs, rcelP c p S.tok, rcelsP ps p S.cs, rdev p la E] ++ R) := by
  rintro x hIr3
  refine hK2 _ _ ?_
  obtain ⟨hmay, hk⟩ := hIr3
  have hmok := MsgM.ok_of hmay
  have hbad : ¬ ((m.kind ≠ 10 ∧ m.kind ≠ 12) ∨ m.may = false) := by rw [hmay]; simp; omega
  have hkd : (outM13 m 0 [] []).cells = [i64 (m.kind + 1), i64 m.epoch, i64 m.seq, i64 m.n, i64 m.block, i64 (-1), i64 0, i64 0, i64 0, i64 0, i64 0, str [], str []] := by unfold outM13 MsgM.cells; dsimp only; rcases hk with hk | hk <;> rw [hk] <;> rfl
  refine cseq ?_; intro K3 hK3
  refine creg ?_
  refine y (ev_fieldAddr 0 rfl Tryz.underlying37 rfl Tryz.sizeOf3) rfl ?_
  refine y (ev_load rfl Tryz.isAgg3 zin rfl) rfl ?_
  refine y (ev_add rfl rfl) rfl ?_
  rw [wr (by omega) (by omega)]
  refine y (ev_fieldAddr 1 rfl Tryz.underlying37 rfl Tryz.sizeOf2) rfl ?_
  refine y (ev_load rfl Tryz.isAgg2 zin rfl) rfl ?_
  refine y (ev_fieldAddr 2 rfl Tryz.underlying37 rfl Tryz.sizeOf2) rfl ?_
  refine y (ev_load rfl Tryz.isAgg2 zin rfl) rfl ?_
  refine y (ev_fieldAddr 3 rfl Tryz.underlying37 rfl Tryz.sizeOf2) rfl ?_
  refine y (ev_load rfl Tryz.isAgg2 zin rfl) rfl ?_
  refine y (ev_fieldAddr 4 rfl Tryz.underlying37 rfl Tryz.sizeOf3) rfl ?_
  refine y (ev_load rfl Tryz.isAgg3 zin rfl) rfl ?_
  refine y (ev_build (vs := [i64 (m.kind + 1), i64 m.epoch, i64 m.seq, i64 m.n, i64 m.block, i64 (-1), i64 0, i64 0, i64 0, i64 0, i64 0, str [], str []]) (zs := _) rfl Tryz.underlying37 Tryz.zeroValue37 rfl (.cons Tryz.sizeOf3 (.cons Tryz.sizeOf2 (.cons Tryz.sizeOf2 (.cons Tryz.sizeOf2 (.cons Tryz.sizeOf3 (.cons Tryz.sizeOf3 (.cons Tryz.sizeOf29 (.cons Tryz.sizeOf35 (.cons Tryz.sizeOf9 (.cons Tryz.sizeOf9 .nil)))))))))) ⟨⟨_, _, rfl, (by first | rfl | simp), (by first | decide | simp)⟩, ⟨⟨_, _, rfl, (by first | rfl | simp), (by first | decide | simp)⟩, ⟨⟨_, _, rfl, (by first | rfl | simp), (by first | decide | simp)⟩, ⟨⟨_, _, rfl, (by first | rfl | simp), (by first | decide | simp)⟩, ⟨⟨_, _, rfl, (by first | rfl | simp), (by first | decide | simp)⟩, ⟨⟨_, _, rfl, (by first | rfl | simp), (by first | decide | simp)⟩, trivial⟩⟩⟩⟩⟩⟩ (by dsimp [fillL, splice, vcells] <;> rfl)) rfl ?_
  refine ya (ac_alloc Tryz.zeroValue37 rfl) rfl ?_
  rintro v L' ⟨b6, rfl, rfl⟩
  refine ya0 (ac_storeAll rfl rfl (by first | exact bytesV_one _ | (simp [Value.oneCell']; done) | (simp only [List.forall_mem_cons, List.not_mem_nil, false_implies, implies_true, svVal_one, and_true, true_and, and_self]; first | done | simp [Value.oneCell'])) Tryz.sizeOf37 zrp (by first | rfl | assumption | (simp [*]; done) | (simp [*]; omega)) (by first | rfl | assumption | (simp [*]; done) | (simp [*]; omega))) ?_
  rintro v L' ⟨rfl, rfl⟩
  refine ynil' (kthn (hK3 _ _ ?_))
  clear hK3
  refine cseq ?_; intro K4 hK4
  refine cseq ?_; intro K5 hK5
  refine cdraw 6 [(0, true), (1, true), (2, true), (3, true), (4, true), (5, true)] ([sc b3 m.cells 37, rsP s c (bkV b S.bs.length cap) S] ++ R) Tryz.mixed (by kernel_rfl) zge ?_
  skip
  refine hr rfl (ev_fieldAddr 1 rfl Tryz.underlying37 rfl Tryz.sizeOf2) rfl ?_
  refine hr rfl (ev_load rfl Tryz.isAgg2 zin rfl) rfl ?_
  refine hr rfl (ev_move rfl) rfl ?_
  refine hr rfl (ev_nil rfl) rfl ?_
  refine hr rfl (ev_fieldAddr 1 rfl Tryz.underlying77 rfl Tryz.sizeOf2) rfl ?_
  refine hr rfl (ev_load rfl Tryz.isAgg2 zin rfl) rfl ?_
  refine hnil ?_
  refine y (ev_lss rfl rfl) rfl ?_
  refine hnoP' (kthn (hK5 _ _ ?_))
  clear hK5
  refine ccond rfl (fun h25 => ?_) (fun h25 => ?_)
  ·(try simp only [sH] at h25)
   refine cseq ?_; intro K6 hK6
   refine creg ?_
   rw [← hkd]
   have htk : S.takeR E m = ((outM13 m 24 [] [], true), S, E) := by unfold StoM.takeR; rw [if_neg hbad, show S.raisedR E m.epoch = (0, S, E) by unfold StoM.raisedR; rw [if_pos (by omega)]]; dsimp only; rw [if_pos (by omega)]
   refine y (ev_fieldAddr 6 rfl Tryz.underlying37 rfl Tryz.sizeOf29) rfl ?_
   refine ya0 (ac_store rfl rfl (by first | rfl | exact svVal_one _ _ | assumption) Tryz.sizeOf29 zrp rfl rfl) ?_
   rintro v L' ⟨rfl, rfl⟩
   rw [show (outM13 m 0 [] []).cells.set (0 + 6) (i64 24) = (outM13 m 24 [] []).cells from rfl]
   refine ynil' (kthn (hK6 _ _ ?_))
   clear hK6
   refine cseq ?_; intro K7 hK7
   refine creg ?_
   refine y (ev_loadAll rfl Tryz.isAgg37 Tryz.sizeOf37 zin (by first | rfl | assumption | (simp [*]; done) | (simp [*]; omega))) rfl ?_
   refine ya0 (ac_storeAll rfl rfl (msg_one _) Tryz.sizeOf37 zrp (by rfl) (by rfl)) ?_
   rintro v L' ⟨rfl, rfl⟩
   refine yas ?_
   refine ynil' (kthn (hK7 _ _ ?_))
   clear hK7
   refine cret (kthr ?_)
   first
     | (exfalso; omega; done)
     | (refine kretct Tryz.results33 rfl rfl Tryz.isAgg37 Tryz.sizeOf37 zin (rfl) (L1 := [rsP s c _ _, rsB b sp ps _, rcelP c p _, rcelsP ps p _, rdev p la _] ++ R) zge ?_
        rw [htk]; exact ⟨_, ⟨rfl, rfl⟩, rfl⟩)
  ·(try simp only [sH] at h25)
   refine cskip' (kthn (hK4 _ _ ?_))
   clear hK4
   refine cseq ?_; intro K8 hK8
   have hJr12 : ∀ x : Int × StoM × RDev, (S.raisedR E m.epoch = x ∧ x.2.1.epoch ≤ m.epoch) → Sk 117 K8 ([(0, ptr s), (3, ptr b3), (4, ptr b4), (5, .bool false), (6, ptr b6)]) ([sc b6 (outM13 m x.1 [] []).cells 37, sc b4 MsgM.zero.cells 37, sc b3 m.cells 37, rsP s c (bkV b S.bs.length cap) x.2.1, rsB b sp ps x.2.1.bs, rcelP c p x.2.1.tok, rcelsP ps p x.2.1.cs, rdev p la x.2.2] ++ R) := by
    rintro ⟨re, rs, rd⟩ hIr12
    refine hK8 _ _ ?_
    obtain ⟨hre, hep⟩ := hIr12; dsimp only at hep ⊢
    obtain ⟨hro, hrb, hrc, hrt⟩ := StoM.raised_ok hS (ep := m.epoch) hmok.epoch
    have hsm := StoM.raisedR_rel hR S m.epoch
    rw [hre] at hsm
    obtain ⟨q1, q2, q3⟩ := hsm
    dsimp only at q1 q2 q3
    rw [q2] at hro hrb hrc hrt
    generalize (S.raised D m.epoch).2.2 = D1 at *
    rw [← hrb]
    have hrb2 := congrArg List.length hrb
    have htk0 : S.takeR E m = (if re ≠ 0 then (if re = 30 then ((.zero, false), rs, rd) else ((outM13 m re [] [], true), rs, rd)) else if m.kind = 10 then (if (rs.storeR rd m).1 = 30 then ((.zero, false), (rs.storeR rd m).2) else ((outM13 m (rs.storeR rd m).1 [] [], true), (rs.storeR rd m).2)) else if 0 ≤ m.block ∧ inN S.bs.length m.block = false then ((outM13 m 2 [] [], true), rs, rd) else ((outM13 m 0 rs.tab (rs.getB m.block).data, true), rs, rd)) := by unfold StoM.takeR; rw [if_neg hbad, hre]; dsimp only; rw [if_neg (by omega)]
    refine cseq ?_; intro K9 hK9
    have hJr19 : ∀ x : MsgM × StoM × RDev, (S.takeR E m = (if x.1.e = 30 then (.zero, false) else (x.1, true), x.2)) → Sk 117 K9 ([(0, ptr s), (3, ptr b3), (4, ptr b4), (5, .bool false), (6, ptr b6)]) ([sc b6 x.1.cells 37, sc b4 MsgM.zero.cells 37, sc b3 m.cells 37, rsP s c (bkV b rs.bs.length cap) x.2.1, rsB b sp ps x.2.1.bs, rcelP c p x.2.1.tok, rcelsP ps p x.2.1.cs, rdev p la x.2.2] ++ R) := by
     rintro ⟨o, S2, D2⟩ hIr19
     refine hK9 _ _ ?_
     have htk := hIr19; dsimp only at htk ⊢
     refine cseq ?_; intro K10 hK10
     refine cseq ?_; intro K11 hK11
     refine creg ?_
     refine y (ev_fieldAddr 6 rfl Tryz.underlying37 rfl Tryz.sizeOf29) rfl ?_
     refine y (ev_load rfl Tryz.isAgg29 zin rfl) rfl ?_
     refine y (ev_eql rfl rfl) rfl ?_
     refine ynil' (kthn (hK11 _ _ ?_))
     clear hK11
     refine ccond rfl (fun h34 => ?_) (fun h34 => ?_)
     ·(try simp only [sH] at h34)
      rw [if_pos h34] at htk
      refine cseq ?_; intro K12 hK12
      refine creg ?_
      refine y (ev_build (zs := _) rfl Tryz.underlying37 Tryz.zeroValue37 rfl (.cons Tryz.sizeOf3 (.cons Tryz.sizeOf2 (.cons Tryz.sizeOf2 (.cons Tryz.sizeOf2 (.cons Tryz.sizeOf3 (.cons Tryz.sizeOf3 (.cons Tryz.sizeOf29 (.cons Tryz.sizeOf35 (.cons Tryz.sizeOf9 (.cons Tryz.sizeOf9 .nil)))))))))) trivial (by dsimp [fillL, splice, vcells] <;> rfl)) rfl ?_
      refine ya0 (ac_storeAll rfl rfl (msg_one .zero) Tryz.sizeOf37 zrp (by rfl) (by rfl)) ?_
      rintro v L' ⟨rfl, rfl⟩
      refine yas ?_
      refine ynil' (kthn (hK12 _ _ ?_))
      clear hK12
      refine cret (kthr ?_)
      first
        | (exfalso; omega; done)
        | (refine kretct Tryz.results33 rfl rfl Tryz.isAgg37 Tryz.sizeOf37 zin (rfl) (L1 := [rsP s c _ _, rsB b sp ps _, rcelP c p _, rcelsP ps p _, rdev p la _] ++ R) zge ?_
           rw [htk]; exact ⟨_, ⟨rfl, rfl⟩, rfl⟩)
     ·(try simp only [sH] at h34)
      rw [if_neg h34] at htk
      refine cskip' (kthn (hK10 _ _ ?_))
      clear hK10
      refine cseq ?_; intro K13 hK13
      refine creg ?_
      refine y (ev_loadAll rfl Tryz.isAgg37 Tryz.sizeOf37 zin (by first | rfl | assumption | (simp [*]; done) | (simp [*]; omega))) rfl ?_
      refine ya0 (ac_storeAll rfl rfl (msg_one _) Tryz.sizeOf37 zrp (by rfl) (by rfl)) ?_
      rintro v L' ⟨rfl, rfl⟩
      refine yas ?_
      refine ynil' (kthn (hK13 _ _ ?_))
      clear hK13
      refine cret ?_
      first
        | (exfalso; omega; done)
        | (refine kretct Tryz.results33 rfl rfl Tryz.isAgg37 Tryz.sizeOf37 zin (rfl) (L1 := [rsP s c _ _, rsB b sp ps _, rcelP c p _, rcelsP ps p _, rdev p la _] ++ R) zge ?_
           rw [htk]; exact ⟨_, ⟨rfl, rfl⟩, rfl⟩)
    clear hK9
    refine cseq ?_; intro K14 hK14
    refine creg ?_
    refine y (ev_fieldAddr 6 rfl Tryz.underlying37 rfl Tryz.sizeOf29) rfl ?_
    refine y (ev_load rfl Tryz.isAgg29 zin rfl) rfl ?_
    refine y (ev_eql rfl rfl) rfl ?_
    refine ymv ?_
    refine ysplit 78 rfl (fun h45 => ?_) (fun h45 => ?_)
    ·(try simp only [sH] at h45)
     have hre0 : re = 0 := h45
     refine ygo ?_
     refine y (ev_fieldAddr 0 rfl Tryz.underlying37 rfl Tryz.sizeOf3) rfl ?_
     refine ygo ?_
     refine y (ev_load rfl Tryz.isAgg3 zin rfl) rfl ?_
     refine ygo ?_
     refine y (ev_eql rfl rfl) rfl ?_
     refine ypa ?_
     refine ynil' (kthn (hK14 _ _ ?_))
     clear hK14
     refine ccond rfl (fun h50 => ?_) (fun h50 => ?_)
     ·(try simp only [sH] at h50)
      refine creg ?_
      have hf : S.takeR E m = (if (outM13 m (rs.storeR rd m).1 [] []).e = 30 then (.zero, false) else (outM13 m (rs.storeR rd m).1 [] [], true), (rs.storeR rd m).2) := by rw [htk0, if_neg (by omega), if_pos (by omega)]; show _ = (if (rs.storeR rd m).1 = 30 then _ else _, _); split <;> rfl
      refine ymv ?_
      refine y (ev_loadAll rfl Tryz.isAgg37 Tryz.sizeOf37 zin (by first | rfl | assumption | (simp [*]; done) | (simp [*]; omega))) rfl ?_
      refine ycall (xbStore ?sok53 ?sm53) rfl Tryz.call72 ztk rfl ?_
      case sok53 => exact rb_ok hro q3
      case sm53 => exact hmok
      rintro v L' ⟨rfl, rfl⟩
      obtain ⟨w, hw0⟩ : ∃ w, rs.storeR rd m = w := ⟨_, rfl⟩
      have hwt := storeR_tok rs rd m
      rw [hw0] at hf hwt ⊢
      rw [← hwt.1]
      refine y (ev_fieldAddr 6 rfl Tryz.underlying37 rfl Tryz.sizeOf29) rfl ?_
      refine ya0 (ac_store rfl rfl (by first | rfl | exact svVal_one _ _ | assumption) Tryz.sizeOf29 zrp rfl rfl) ?_
      rintro v L' ⟨rfl, rfl⟩
      refine ynil' (kthn ?_)
      exact ksub zsub zge (hJr19 (_, _) hf)
     ·(try simp only [sH] at h50)
      refine cseq ?_; intro K15 hK15
      refine creg ?_
      refine y (ev_fieldAddr 6 rfl Tryz.underlying37 rfl Tryz.sizeOf29) rfl ?_
      refine y (ev_load rfl Tryz.isAgg29 zin rfl) rfl ?_
      refine y (ev_eql rfl rfl) rfl ?_
      refine ynil' (kthn (hK15 _ _ ?_))
      clear hK15
      refine ccond rfl (fun h59 => ?_) (fun h59 => ?_)
      ·(try simp only [sH] at h59)
       have hre1 : re = 0 := h59
       refine cseq ?_; intro K16 hK16
       refine cdraw 7 [(0, true), (1, true), (2, true), (3, true), (4, true), (5, true), (6, true)] ([sc b3 m.cells 37, rsP s c (bkV b rs.bs.length cap) rs] ++ R) Tryz.mixed (by kernel_rfl) zge ?_
       refine hr rfl (ev_fieldAddr 4 rfl Tryz.underlying37 rfl Tryz.sizeOf3) rfl ?_
       refine hr rfl (ev_load rfl Tryz.isAgg3 zin rfl) rfl ?_
       refine hr rfl (ev_move rfl) rfl ?_
       refine hr rfl (ev_nil rfl) rfl ?_
       refine hr rfl (ev_fieldAddr 2 rfl Tryz.underlying77 rfl Tryz.sizeOf75) rfl ?_
       refine hr rfl (ev_load rfl Tryz.isAgg75 zin rfl) rfl ?_
       first
         | refine hr rfl (ev_len rfl Tryz.underlying75) rfl ?_
         | refine hr rfl (ev_lenSv rfl Tryz.underlying75 (by assumption)) rfl ?_
         | refine hr rfl (ev_lenV rfl Tryz.underlying75 (RdV.lenVal (by assumption))) rfl ?_
         | refine hr rfl (ev_lenV rfl Tryz.underlying75 (RdB.lenVal (by assumption))) rfl ?_
       refine hnil ?_
       refine y (ev_geq rfl rfl) rfl ?_
       refine hnoP' (kthn (hK16 _ _ ?_))
       clear hK16
       refine ccond rfl (fun h68 => ?_) (fun h68 => ?_)
       ·(try simp only [sH] at h68)
        refine creg ?_
        have hf : S.takeR E m = (if (outM13 m 2 [] []).e = 30 then (.zero, false) else (outM13 m 2 [] [], true), (rs, rd)) := by rw [htk0, if_neg (by omega), if_neg (by omega), if_pos ⟨by omega, Bool.eq_false_iff.2 fun h => by have := inN_iff.1 h; omega⟩]; rfl
        refine y (ev_fieldAddr 6 rfl Tryz.underlying37 rfl Tryz.sizeOf29) rfl ?_
        refine ya0 (ac_store rfl rfl (by first | rfl | exact svVal_one _ _ | assumption) Tryz.sizeOf29 zrp rfl rfl) ?_
        rintro v L' ⟨rfl, rfl⟩
        refine ynil' (kthn ?_)
        exact ksub zsub zge (hJr19 (_, _) hf)
       ·(try simp only [sH] at h68)
        refine cseq ?_; intro K17 hK17
        refine creg ?_
        have hre2 := hre1; subst hre2
        have hf : S.takeR E m = (if (outM13 m 0 rs.tab (rs.getB m.block).data).e = 30 then (.zero, false) else (outM13 m 0 rs.tab (rs.getB m.block).data, true), (rs, rd)) := by rw [htk0, if_neg (by omega), if_neg (by omega), if_neg (by rintro ⟨h1, h2⟩; rw [inN_iff.2 ⟨h1, by omega⟩] at h2; cases h2)]; rfl
        refine ymv ?_
        refine yni ?_
        refine y (ev_fieldAddr 3 rfl Tryz.underlying77 rfl Tryz.sizeOf35) rfl ?_
        refine y (ev_loadN (u := intsV rs.tab) rfl Tryz.isAgg35 Tryz.sizeOf35 zin (by show (List.drop 3 _).take 4 = _; unfold rsV13; rw [List.drop_left' (by rfl), List.take_of_length_le (by simp [intsV, hro.wf.tab])]) (by simp [intsV, hro.wf.tab])) rfl ?_
        refine y (ev_fieldAddr 7 rfl Tryz.underlying37 rfl Tryz.sizeOf35) rfl ?_
        refine ya0 (ac_storeN (vs' := (outM13 m 0 rs.tab []).cells) rfl rfl (intsV_one _) Tryz.sizeOf35 zrp (by simp [intsV, hro.wf.tab]) (by simp [outM13, MsgM.cells]) (by rw [tab4 hro.wf.tab]; rfl)) ?_
        rintro v L' ⟨rfl, rfl⟩
        refine ynil' (kthn (hK17 _ _ ?_))
        clear hK17
        refine creg ?_
        refine ymv ?_
        refine y (ev_fieldAddr 4 rfl Tryz.underlying37 rfl Tryz.sizeOf3) rfl ?_
        refine y (ev_load rfl Tryz.isAgg3 zin rfl) rfl ?_
        refine ycall (xbGet ?gw80) rfl Tryz.call36 ztk rfl ?_
        case gw80 => exact hro.wf
        rintro v L' ⟨rfl, rfl⟩
        refine ymv ?_
        refine yxt ?_
        refine yxt ?_
        refine y (ev_fieldAddr 11 rfl Tryz.underlying37 rfl Tryz.sizeOf9) rfl ?_
        refine ya0 (ac_store rfl rfl (by first | rfl | exact svVal_one _ _ | assumption) Tryz.sizeOf9 zrp rfl rfl) ?_
        rintro v L' ⟨rfl, rfl⟩
        refine ynil' (kthn ?_)
        exact ksub zsub zge (hJr19 (_, _) hf)
      ·(try simp only [sH] at h59)
       have hre1 : ¬ re = 0 := h59
       have hf : S.takeR E m = (if (outM13 m re [] []).e = 30 then (.zero, false) else (outM13 m re [] [], true), (rs, rd)) := by rw [htk0, if_pos hre1]; show _ = (if re = 30 then _ else _, _); split <;> rfl
       refine cskip' (kthn ?_)
       exact ksub zsub zge (hJr19 (_, _) hf)
    ·(try simp only [sH] at h45)
     have hre0 : ¬ re = 0 := h45
     refine ygz ?_
     refine ygz ?_
     refine ygz ?_
     refine ypb ?_
     refine ynil' (kthn (hK14 _ _ ?_))
     clear hK14
     refine ccond0 rfl ?_
     refine cseq ?_; intro K18 hK18
     refine creg ?_
     refine y (ev_fieldAddr 6 rfl Tryz.underlying37 rfl Tryz.sizeOf29) rfl ?_
     refine y (ev_load rfl Tryz.isAgg29 zin rfl) rfl ?_
     refine y (ev_eql rfl rfl) rfl ?_
     refine ynil' (kthn (hK18 _ _ ?_))
     clear hK18
     refine ccond rfl (fun h90 => ?_) (fun h90 => ?_)
     ·(try simp only [sH] at h90)
      have hre1 : re = 0 := h90
      refine cseq ?_; intro K19 hK19
      refine cdraw 7 [(0, true), (1, true), (2, true), (3, true), (4, true), (5, true), (6, true)] ([sc b3 m.cells 37, rsP s c (bkV b rs.bs.length cap) rs] ++ R) Tryz.mixed (by kernel_rfl) zge ?_
      refine hr rfl (ev_fieldAddr 4 rfl Tryz.underlying37 rfl Tryz.sizeOf3) rfl ?_
      refine hr rfl (ev_load rfl Tryz.isAgg3 zin rfl) rfl ?_
      refine hr rfl (ev_move rfl) rfl ?_
      refine hr rfl (ev_nil rfl) rfl ?_
      refine hr rfl (ev_fieldAddr 2 rfl Tryz.underlying77 rfl Tryz.sizeOf75) rfl ?_
      refine hr rfl (ev_load rfl Tryz.isAgg75 zin rfl) rfl ?_
      first
        | refine hr rfl (ev_len rfl Tryz.underlying75) rfl ?_
        | refine hr rfl (ev_lenSv rfl Tryz.underlying75 (by assumption)) rfl ?_
        | refine hr rfl (ev_lenV rfl Tryz.underlying75 (RdV.lenVal (by assumption))) rfl ?_
        | refine hr rfl (ev_lenV rfl Tryz.underlying75 (RdB.lenVal (by assumption))) rfl ?_
      refine hnil ?_
      refine y (ev_geq rfl rfl) rfl ?_
      refine hnoP' (kthn (hK19 _ _ ?_))
      clear hK19
      refine ccond rfl (fun h99 => ?_) (fun h99 => ?_)
      ·(try simp only [sH] at h99)
       refine creg ?_
       have hf : S.takeR E m = (if (outM13 m 2 [] []).e = 30 then (.zero, false) else (outM13 m 2 [] [], true), (rs, rd)) := by rw [htk0, if_neg (by omega), if_neg (by omega), if_pos ⟨by omega, Bool.eq_false_iff.2 fun h => by have := inN_iff.1 h; omega⟩]; rfl
       refine y (ev_fieldAddr 6 rfl Tryz.underlying37 rfl Tryz.sizeOf29) rfl ?_
       refine ya0 (ac_store rfl rfl (by first | rfl | exact svVal_one _ _ | assumption) Tryz.sizeOf29 zrp rfl rfl) ?_
       rintro v L' ⟨rfl, rfl⟩
       refine ynil' (kthn ?_)
       exact ksub zsub zge (hJr19 (_, _) hf)
      ·(try simp only [sH] at h99)
       refine cseq ?_; intro K20 hK20
       refine creg ?_
       have hre2 := hre1; subst hre2
       have hf : S.takeR E m = (if (outM13 m 0 rs.tab (rs.getB m.block).data).e = 30 then (.zero, false) else (outM13 m 0 rs.tab (rs.getB m.block).data, true), (rs, rd)) := by rw [htk0, if_neg (by omega), if_neg (by omega), if_neg (by rintro ⟨h1, h2⟩; rw [inN_iff.2 ⟨h1, by omega⟩] at h2; cases h2)]; rfl
       refine ymv ?_
       refine yni ?_
       refine y (ev_fieldAddr 3 rfl Tryz.underlying77 rfl Tryz.sizeOf35) rfl ?_
       refine y (ev_loadN (u := intsV rs.tab) rfl Tryz.isAgg35 Tryz.sizeOf35 zin (by show (List.drop 3 _).take 4 = _; unfold rsV13; rw [List.drop_left' (by rfl), List.take_of_length_le (by simp [intsV, hro.wf.tab])]) (by simp [intsV, hro.wf.tab])) rfl ?_
       refine y (ev_fieldAddr 7 rfl Tryz.underlying37 rfl Tryz.sizeOf35) rfl ?_
       refine ya0 (ac_storeN (vs' := (outM13 m 0 rs.tab []).cells) rfl rfl (intsV_one _) Tryz.sizeOf35 zrp (by simp [intsV, hro.wf.tab]) (by simp [outM13, MsgM.cells]) (by rw [tab4 hro.wf.tab]; rfl)) ?_
       rintro v L' ⟨rfl, rfl⟩
       refine ynil' (kthn (hK20 _ _ ?_))
       clear hK20
       refine creg ?_
       refine ymv ?_
       refine y (ev_fieldAddr 4 rfl Tryz.underlying37 rfl Tryz.sizeOf3) rfl ?_
       refine y (ev_load rfl Tryz.isAgg3 zin rfl) rfl ?_
       refine ycall (xbGet ?gw111) rfl Tryz.call36 ztk rfl ?_
       case gw111 => exact hro.wf
       rintro v L' ⟨rfl, rfl⟩
       refine ymv ?_
       refine yxt ?_
       refine yxt ?_
       refine y (ev_fieldAddr 11 rfl Tryz.underlying37 rfl Tryz.sizeOf9) rfl ?_
       refine ya0 (ac_store rfl rfl (by first | rfl | exact svVal_one _ _ | assumption) Tryz.sizeOf9 zrp rfl rfl) ?_
       rintro v L' ⟨rfl, rfl⟩
       refine ynil' (kthn ?_)
       exact ksub zsub zge (hJr19 (_, _) hf)
     ·(try simp only [sH] at h90)
      have hre1 : ¬ re = 0 := h90
      have hf : S.takeR E m = (if (outM13 m re [] []).e = 30 then (.zero, false) else (outM13 m re [] [], true), (rs, rd)) := by rw [htk0, if_pos hre1]; show _ = (if re = 30 then _ else _, _); split <;> rfl
      refine cskip' (kthn ?_)
      exact ksub zsub zge (hJr19 (_, _) hf)
   clear hK8
   refine cseq ?_; intro K21 hK21
   refine cdraw 6 [(0, true), (1, true), (2, true), (3, true), (4, true), (5, true)] ([sc b3 m.cells 37, rsP s c (bkV b S.bs.length cap) S] ++ R) Tryz.mixed (by kernel_rfl) zge ?_
   refine hr rfl (ev_fieldAddr 1 rfl Tryz.underlying37 rfl Tryz.sizeOf2) rfl ?_
   refine hr rfl (ev_load rfl Tryz.isAgg2 zin rfl) rfl ?_
   refine hr rfl (ev_move rfl) rfl ?_
   refine hr rfl (ev_nil rfl) rfl ?_
   refine hr rfl (ev_fieldAddr 1 rfl Tryz.underlying77 rfl Tryz.sizeOf2) rfl ?_
   refine hr rfl (ev_load rfl Tryz.isAgg2 zin rfl) rfl ?_
   refine hnil ?_
   refine y (ev_gtr rfl rfl) rfl ?_
   refine hnoP' (kthn (hK21 _ _ ?_))
   clear hK21
   refine ccond rfl (fun h124 => ?_) (fun h124 => ?_)
   ·(try simp only [sH] at h124)
    have hra : S.raisedR E m.epoch = ((S.tok.putR E (recB (tokR m.epoch))).1, { S with tok := (S.tok.putR E (recB (tokR m.epoch))).2.1, epoch := if (S.tok.putR E (recB (tokR m.epoch))).1 = 0 then m.epoch else S.epoch }, (S.tok.putR E (recB (tokR m.epoch))).2.2) := by unfold StoM.raisedR; rw [if_neg (by omega)]
    have henc := enc_of (tok_may hmok.epoch)
    have hlen := tok_len hmok.epoch
    refine cseq ?_; intro K22 hK22
    refine creg ?_
    refine y (ev_fieldAddr 1 rfl Tryz.underlying37 rfl Tryz.sizeOf2) rfl ?_
    refine y (ev_load rfl Tryz.isAgg2 zin rfl) rfl ?_
    refine ya (ac_bsliceR rfl Tryz.underlying53 Tryz.sizeOf2 Tryz.zeroValue2 rfl rfl rfl rfl ⟨⟨_, _, rfl, (by first | rfl | simp), (by first | decide | simp)⟩, trivial⟩ (by dsimp [fillL, splice, vcells, reps] <;> rfl)) rfl ?_
    rintro v L' ⟨b54, rfl, rfl⟩
    refine y (ev_build (zs := _) rfl Tryz.underlying100 Tryz.zeroValue100 rfl (.cons Tryz.sizeOf3 (.cons Tryz.sizeOf53 (.cons Tryz.sizeOf98 .nil))) ⟨⟨_, _, rfl, (by first | rfl | simp), (by first | decide | simp)⟩, ⟨⟨_, _, rfl, (by first | rfl | simp), (by first | decide | simp)⟩, trivial⟩⟩ (by dsimp [fillL, splice, vcells] <;> rfl)) rfl ?_
    refine ycall (rEncode (r := tokR m.epoch) ?hn129 ?ht129 ?sx129) rfl Tryz.call70 ztk rfl ?_
    case hn129 => exact rdV_in zin rfl rfl
    case ht129 => exact rdV_nil
    case sx129 => exact (tok_may hmok.epoch).num
    rintro v L' ⟨s56, rfl, ok56, rfl⟩
    rw [henc] at ok56 ⊢; dsimp only at ok56 ⊢
    generalize recB (tokR m.epoch) = rb at *
    refine ymv ?_
    refine yxt ?_
    refine yxt ?_
    refine yas ?_
    refine yas ?_
    refine ynil' (kthn (hK22 _ _ ?_))
    clear hK22
    refine cseq ?_; intro K23 hK23
    refine cdraw 8 [(0, true), (1, true), (2, true), (3, true), (4, true), (5, true), (6, false), (7, true)] ([rsP s c (bkV b S.bs.length cap) S, svSeg s56 5 (bytesV rb)] ++ R) Tryz.mixed (by kernel_rfl) zge ?_
    rw [← hkd]
    refine hr rfl (ev_move rfl) rfl ?_
    refine hr rfl (ev_nil rfl) rfl ?_
    refine hr rfl (ev_fieldAddr 0 rfl Tryz.underlying77 rfl Tryz.sizeOf52) rfl ?_
    refine hr rfl (ev_load rfl Tryz.isAgg52 zin rfl) rfl ?_
    refine hr rfl (ev_move rfl) rfl ?_
    refine hr rfl (ev_toStrB (rdY_sv (L := [svSeg s56 5 (bytesV rb)]) .z ok56).rd.bytes zge rfl Tryz.underlying50 Tryz.underlying9 Tryz.underlying5) rfl ?_
    refine hcall rfl (rcPut ?pa141 ?pb141 ?pc141 ?pd141) rfl Tryz.call71 ztk rfl ?_
    case pa141 => exact hS.tok.gen
    case pb141 => exact hS.tok.now
    case pc141 => exact hR.rok
    case pd141 => exact fun i bs => (hR.write i bs).2.rok
    rintro v L' ⟨rfl, rfl⟩; refine ⟨zge, ?_⟩
    obtain ⟨r, hr0⟩ : ∃ r, S.tok.putR E rb = r := ⟨_, rfl⟩
    rw [hr0] at hra ⊢
    refine hr rfl (ev_fieldAddr 6 rfl Tryz.underlying37 rfl Tryz.sizeOf29) rfl ?_
    refine hnil ?_
    refine ya0 (ac_store rfl rfl (by first | rfl | exact svVal_one _ _ | assumption) Tryz.sizeOf29 zrp rfl rfl) ?_
    rintro v L' ⟨rfl, rfl⟩
    refine hnoP' (kthn (hK23 _ _ ?_))
    clear hK23
    refine cseq ?_; intro K24 hK24
    refine creg ?_
    refine y (ev_fieldAddr 6 rfl Tryz.underlying37 rfl Tryz.sizeOf29) rfl ?_
    refine y (ev_load rfl Tryz.isAgg29 zin rfl) rfl ?_
    refine y (ev_eql rfl rfl) rfl ?_
    refine ynil' (kthn (hK24 _ _ ?_))
    clear hK24
    refine ccond rfl (fun h147 => ?_) (fun h147 => ?_)
    ·(try simp only [sH] at h147)
     rw [if_pos h147] at hra
     refine creg ?_
     refine ymv ?_
     refine y (ev_fieldAddr 1 rfl Tryz.underlying37 rfl Tryz.sizeOf2) rfl ?_
     refine y (ev_load rfl Tryz.isAgg2 zin rfl) rfl ?_
     refine yni ?_
     refine y (ev_fieldAddr 1 rfl Tryz.underlying77 rfl Tryz.sizeOf2) rfl ?_
     refine ya0 (ac_store rfl rfl (by first | rfl | exact svVal_one _ _ | assumption) Tryz.sizeOf2 zrp rfl rfl) ?_
     rintro v L' ⟨rfl, rfl⟩
     refine ynil' (kthn ?_)
     exact ksub zsub zge (hJr12 _ ⟨hra, by dsimp only; omega⟩)
    ·(try simp only [sH] at h147)
     rw [if_neg h147] at hra
     refine cskip' (kthn ?_)
     exact ksub zsub zge (hJr12 _ ⟨hra, by dsimp only; omega⟩)
   ·(try simp only [sH] at h124)
    have hra : S.raisedR E m.epoch = (0, S, E) := by unfold StoM.raisedR; rw [if_pos (by omega)]
    rw [← hkd]
    refine cskip' (kthn ?_)
    exact ksub zsub zge (hJr12 _ ⟨hra, by dsimp only; omega⟩)
 clear hK2
 refine cseq ?_; intro K25 hK25
 refine creg ?_
 refine y (ev_fieldAddr 0 rfl Tryz.underlying37 rfl Tryz.sizeOf3) rfl ?_
 refine y (ev_load rfl Tryz.isAgg3 zin rfl) rfl ?_
 refine y (ev_neq rfl rfl) rfl ?_
 refine ymv ?_
 refine ysplit 12 rfl (fun h158 => ?_) (fun h158 => ?_)
 ·(try simp only [sH] at h158)
  refine ygo ?_
  refine y (ev_fieldAddr 0 rfl Tryz.underlying37 rfl Tryz.sizeOf3) rfl ?_
  refine ygo ?_
  refine y (ev_load rfl Tryz.isAgg3 zin rfl) rfl ?_
  refine ygo ?_
  refine y (ev_neq rfl rfl) rfl ?_
  refine ypa ?_
  refine ymv ?_
  refine ysplit 17 rfl (fun h164 => ?_) (fun h164 => ?_)
  ·(try simp only [sH] at h164)
   refine ygz ?_
   refine ygz ?_
   refine ygz ?_
   refine ypa ?_
   refine ynil' (kthn (hK25 _ _ ?_))
   clear hK25
   refine ccond1 rfl ?_
   refine cseq ?_; intro K26 hK26
   refine creg ?_
   have htk : S.takeR E m = ((.zero, false), S, E) := by unfold StoM.takeR; rw [if_pos]; first | (left; omega) | (right; simp_all; done)
   refine y (ev_build (zs := _) rfl Tryz.underlying37 Tryz.zeroValue37 rfl (.cons Tryz.sizeOf3 (.cons Tryz.sizeOf2 (.cons Tryz.sizeOf2 (.cons Tryz.sizeOf2 (.cons Tryz.sizeOf3 (.cons Tryz.sizeOf3 (.cons Tryz.sizeOf29 (.cons Tryz.sizeOf35 (.cons Tryz.sizeOf9 (.cons Tryz.sizeOf9 .nil)))))))))) trivial (by dsimp [fillL, splice, vcells] <;> rfl)) rfl ?_
   refine ya0 (ac_storeAll rfl rfl (msg_one .zero) Tryz.sizeOf37 zrp (by rfl) (by rfl)) ?_
   rintro v L' ⟨rfl, rfl⟩
   refine yas ?_
   refine ynil' (kthn (hK26 _ _ ?_))
   clear hK26
   refine cret (kthr ?_)
   first
     | (exfalso; omega; done)
     | (refine kretct Tryz.results33 rfl rfl Tryz.isAgg37 Tryz.sizeOf37 zin (rfl) (L1 := [rsP s c _ _, rsB b sp ps _, rcelP c p _, rcelsP ps p _, rdev p la _] ++ R) zge ?_
        rw [htk]; exact ⟨_, ⟨rfl, rfl⟩, rfl⟩)
  ·(try simp only [sH] at h164)
   refine ygo ?_
   refine y (ev_loadAll rfl Tryz.isAgg37 Tryz.sizeOf37 zin (by first | rfl | assumption | (simp [*]; done) | (simp [*]; omega))) rfl ?_
   refine ygo ?_
   refine ycall (x11May (m := m)) rfl Tryz.call50 ztk rfl ?_
   rintro v L' ⟨rfl, rfl⟩
   refine ygo ?_
   refine y (ev_not rfl) rfl ?_
   refine ypb ?_
   refine ynil' (kthn (hK25 _ _ ?_))
   clear hK25
   refine ccond rfl (fun h173 => ?_) (fun h173 => ?_)
   ·(try simp only [sH] at h173)
    refine cseq ?_; intro K27 hK27
    refine creg ?_
    have htk : S.takeR E m = ((.zero, false), S, E) := by unfold StoM.takeR; rw [if_pos]; first | (left; omega) | (right; simp_all; done)
    refine y (ev_build (zs := _) rfl Tryz.underlying37 Tryz.zeroValue37 rfl (.cons Tryz.sizeOf3 (.cons Tryz.sizeOf2 (.cons Tryz.sizeOf2 (.cons Tryz.sizeOf2 (.cons Tryz.sizeOf3 (.cons Tryz.sizeOf3 (.cons Tryz.sizeOf29 (.cons Tryz.sizeOf35 (.cons Tryz.sizeOf9 (.cons Tryz.sizeOf9 .nil)))))))))) trivial (by dsimp [fillL, splice, vcells] <;> rfl)) rfl ?_
    refine ya0 (ac_storeAll rfl rfl (msg_one .zero) Tryz.sizeOf37 zrp (by rfl) (by rfl)) ?_
    rintro v L' ⟨rfl, rfl⟩
    refine yas ?_
    refine ynil' (kthn (hK27 _ _ ?_))
    clear hK27
    refine cret (kthr ?_)
    first
      | (exfalso; omega; done)
      | (refine kretct Tryz.results33 rfl rfl Tryz.isAgg37 Tryz.sizeOf37 zin (rfl) (L1 := [rsP s c _ _, rsB b sp ps _, rcelP c p _, rcelsP ps p _, rdev p la _] ++ R) zge ?_
         rw [htk]; exact ⟨_, ⟨rfl, rfl⟩, rfl⟩)
   ·(try simp only [sH] at h173)
    refine cskip' (kthn ?_)
    first
      | (exfalso; omega; done)
      | exact ksub zsub zge (hJr3 () (⟨by simp_all, by omega⟩))
 ·(try simp only [sH] at h158)
  refine ygz ?_
  refine ygz ?_
  refine ygz ?_
  refine ypb ?_
  refine ymv ?_
  refine ygo ?_
  refine y (ev_loadAll rfl Tryz.isAgg37 Tryz.sizeOf37 zin (by first | rfl | assumption | (simp [*]; done) | (simp [*]; omega))) rfl ?_
  refine ygo ?_
  refine ycall (x11May (m := m)) rfl Tryz.call50 ztk rfl ?_
  rintro v L' ⟨rfl, rfl⟩
  refine ygo ?_
  refine y (ev_not rfl) rfl ?_
  refine ypb ?_
  refine ynil' (kthn (hK25 _ _ ?_))
  clear hK25
  refine ccond rfl (fun h183 => ?_) (fun h183 => ?_)
  ·(try simp only [sH] at h183)
   refine cseq ?_; intro K28 hK28
   refine creg ?_
   have htk : S.takeR E m = ((.zero, false), S, E) := by unfold StoM.takeR; rw [if_pos]; first | (left; omega) | (right; simp_all; done)
   refine y (ev_build (zs := _) rfl Tryz.underlying37 Tryz.zeroValue37 rfl (.cons Tryz.sizeOf3 (.cons Tryz.sizeOf2 (.cons Tryz.sizeOf2 (.cons Tryz.sizeOf2 (.cons Tryz.sizeOf3 (.cons Tryz.sizeOf3 (.cons Tryz.sizeOf29 (.cons Tryz.sizeOf35 (.cons Tryz.sizeOf9 (.cons Tryz.sizeOf9 .nil)))))))))) trivial (by dsimp [fillL, splice, vcells] <;> rfl)) rfl ?_
   refine ya0 (ac_storeAll rfl rfl (msg_one .zero) Tryz.sizeOf37 zrp (by rfl) (by rfl)) ?_
   rintro v L' ⟨rfl, rfl⟩
   refine yas ?_
   refine ynil' (kthn (hK28 _ _ ?_))
   clear hK28
   refine cret (kthr ?_)
   first
     | (exfalso; omega; done)
     | (refine kretct Tryz.results33 rfl rfl Tryz.isAgg37 Tryz.sizeOf37 zin (rfl) (L1 := [rsP s c _ _, rsB b sp ps _, rcelP c p _, rcelsP ps p _, rdev p la _] ++ R) zge ?_
        rw [htk]; exact ⟨_, ⟨rfl, rfl⟩, rfl⟩)
  ·(try simp only [sH] at h183)
   refine cskip' (kthn ?_)
   first
     | (exfalso; omega; done)
     | exact ksub zsub zge (hJr3 () (⟨by simp_all, by omega⟩))
end W
end Go.Proofs
