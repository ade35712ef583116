/- A part of the proof: contracts and plain lemmas, each without conditions beyond those that it names. -/
import Derived.Test.YtediodfmkbfomaaGreatC4
set_option linter.unusedVariables false
set_option linter.unusedSimpArgs false
set_option linter.constructorNameAsVariable false
namespace Go.Proofs
open Go Go.Sl
namespace W
set_option linter.unusedVariables false
theorem len6d {l : List Int} (h : 6 ≤ l.length) : ∃ a b c d e f, l.drop (l.length - 6) = [a, b, c, d, e, f] := len6 (by simp; omega)
theorem intsV_drop (l : List Int) (k : Nat) : intsV (l.drop k) = (intsV l).drop k := by simp [intsV, List.map_drop]
theorem intsV_take (l : List Int) (k : Nat) : intsV (l.take k) = (intsV l).take k := by simp [intsV, List.map_take]
theorem vcells_what (o : Option WhatM) : vcells (whatV o) = [whatV o] := by
 cases o with
 | none => rfl
 | some w => cases w <;> rfl
theorem what_one (o : Option WhatM) : (whatV o).oneCell' = true := by
 cases o with
 | none => rfl
 | some w => exact val_one w
theorem whatV_iface (o : Option WhatM) : whatV o = .nilIface ∨ ∃ T u, whatV o = .iface T u := by
 cases o with
 | none => exact .inl rfl
 | some w => cases w <;> exact .inr ⟨_, _, rfl⟩
theorem isW (o : Option WhatM) : isIf (whatV o) = o.isSome := by
 cases o with
 | none => rfl
 | some w => cases w <;> rfl
theorem recW_one (o : Option WhatM) (a b c d e f : Int) : ∀ u ∈ [whatV o, i64 a, i64 b, i64 c, i64 d, i64 e, i64 f], u.oneCell' = true := by
 intro u hu
 simp only [List.mem_cons, List.not_mem_nil, or_false] at hu
 rcases hu with rfl | rfl | rfl | rfl | rfl | rfl | rfl
 · exact what_one _
 all_goals rfl
theorem ints_at {l : List Int} {k i : Nat} {x : Int} (h : (l.drop k)[i]? = some x) : (intsV l)[k + i]? = some (i64 x) := by
 rw [List.getElem?_drop] at h
 simp [intsV, h]
/-- What is told of a payload. -/
def KRd (n : Nat) (bs : Bytes) (L : List Seg) (u : Value) (L' : List Seg) : Prop := L' = L ∧
 ((∃ r, readC n bs = some r ∧ u = .tuple #[.agg (recA r).toArray, .bool true]) ∨ (readC n bs = none ∧ ∃ us : List Value, us.length = 7 ∧ (∀ z ∈ us, z.oneCell' = true) ∧ u = .tuple #[.agg us.toArray, .bool false]))
theorem kRead [Env] {R : List Seg} {A : CaA} {C : CaM} {bs : Bytes} (hb : C.bl ≤ 32) (hbs : bs.length ≤ 1000) :
   Con Tryz.prog 48 [ptr A.p, str bs] [caP A C] R (KRd C.bl bs [caP A C]) := by
 refine con_enter Tryz.func48 Tryz.ntmps48 rfl rfl ?_
 refine cseq ?_; intro K1 hK1
 refine creg ?_
 refine ya (ac_alloc Tryz.zeroValue101 rfl) rfl ?_
 rintro v L' ⟨b4, rfl, rfl⟩
 refine yas ?_
 refine ynil' (kthn (hK1 _ _ ?_))
 clear hK1
 refine cseq ?_; intro K2 hK2
 refine creg ?_
 refine ymv ?_
 refine ya (ac_toBytesY rfl Tryz.underlying9 Tryz.underlying22 Tryz.underlying5) rfl ?_
 rintro v L' ⟨b12, c12, sp12, fr12, rfl, hc12, rfl⟩
 refine ycall (cDecode (bs := bs) ?hb5) rfl Tryz.call61 ztk rfl ?_
 case hb5 => exact rdY_in zin hc12
 rintro v L' ⟨sn13, st13, rfl, ok13, rfl⟩
 obtain ⟨de, hde⟩ : ∃ z, decM bs = z := ⟨_, rfl⟩
 have hnl := decM_len bs
 obtain ⟨rc, er⟩ := de
 rw [hde] at ok13 hnl ⊢
 dsimp only at ok13 hnl ⊢
 have okn := ok13.n
 have okt := ok13.t
 unfold recV
 have hvn : RdV [svSeg sn13 2 (intsV rc.nums)] (svVal sn13 rc.nums.length) rc.nums.length (intsV rc.nums) := rdV_sv .z okn
 have htn : RdV [svSeg st13 9 (strsV rc.texts)] (svVal st13 rc.texts.length) rc.texts.length (strsV rc.texts) := rdV_sv .z okt
 have hcap := svCap okn
 refine ymv ?_
 refine yxt ?_
 refine yxt ?_
 refine ya (ac_alloc Tryz.zeroValue126 rfl) rfl ?_
 rintro v L' ⟨b6, rfl, rfl⟩
 refine ya0 (ac_storeAll rfl rfl (by first | exact bytesV_one _ | (simp [Value.oneCell']; done) | (simp only [List.forall_mem_cons, List.not_mem_nil, false_implies, implies_true, svVal_one, and_true, true_and, and_self]; first | done | simp [Value.oneCell'])) Tryz.sizeOf126 zrp (by first | rfl | assumption | (simp [*]; done) | (simp [*]; omega)) (by first | rfl | assumption | (simp [*]; done) | (simp [*]; omega))) ?_
 rintro v L' ⟨rfl, rfl⟩
 refine yas ?_
 refine ynil' (kthn (hK2 _ _ ?_))
 clear hK2
 refine cseq ?_; intro K3 hK3
 refine creg ?_
 refine y (ev_fieldAddr 1 rfl Tryz.underlying126 rfl Tryz.sizeOf56) rfl ?_
 refine y (ev_load rfl Tryz.isAgg56 zin rfl) rfl ?_
 first
   | refine y (ev_len rfl Tryz.underlying56) rfl ?_
   | refine y (ev_lenSv rfl Tryz.underlying56 (by assumption)) rfl ?_
   | refine y (ev_lenV rfl Tryz.underlying56 (RdV.lenVal (by assumption))) rfl ?_
   | refine y (ev_lenV rfl Tryz.underlying56 (RdB.lenVal (by assumption))) rfl ?_
 refine y (ev_sub rfl rfl) rfl ?_
 rw [wr (by omega) (by omega)]
 refine yas ?_
 refine ynil' (kthn (hK3 _ _ ?_))
 clear hK3
 refine cseq ?_; intro K4 hK4
 refine cseq ?_; intro K5 hK5
 refine creg ?_
 refine ymv ?_
 refine y (ev_neq rfl rfl) rfl ?_
 refine ymv ?_
 refine ysplit 22 rfl (fun h20 => ?_) (fun h20 => ?_)
 ·(try simp only [sH] at h20)
  refine ygz ?_
  refine ygz ?_
  refine ypa ?_
  refine ymv ?_
  refine ygz ?_
  refine ygz ?_
  refine ygz ?_
  refine ygz ?_
  refine ygz ?_
  refine ypa ?_
  refine ynil' (kthn (hK5 _ _ ?_))
  clear hK5
  refine ccond1 rfl ?_
  refine cseq ?_; intro K6 hK6
  refine creg ?_
  have rcN : readC C.bl bs = none := by
    have hbad : badC bs = true := by
      unfold badC; rw [hde]; simp only [Bool.or_eq_true, Bool.not_eq_true', decide_eq_false_iff_not, decide_eq_true_eq]
      first | (left; left; assumption) | (left; right; omega) | (right; assumption)
    unfold readC; rw [if_pos hbad]
  refine y (ev_build (zs := _) rfl Tryz.underlying101 Tryz.zeroValue101 rfl (.cons Tryz.sizeOf20 (.cons Tryz.sizeOf82 .nil)) trivial (by dsimp [fillL, splice, vcells] <;> rfl)) rfl ?_
  refine ya0 (ac_storeAll rfl rfl (by first | exact bytesV_one _ | (simp [Value.oneCell']; done) | (simp only [List.forall_mem_cons, List.not_mem_nil, false_implies, implies_true, svVal_one, and_true, true_and, and_self]; first | done | simp [Value.oneCell'])) Tryz.sizeOf101 zrp (by first | rfl | assumption | (simp [*]; done) | (simp [*]; omega)) (by first | rfl | assumption | (simp [*]; done) | (simp [*]; omega))) ?_
  rintro v L' ⟨rfl, rfl⟩
  refine yas ?_
  refine ynil' (kthn (hK6 _ _ ?_))
  clear hK6
  refine cret (kthr ?_)
  first
    | (exfalso; omega; done)
    | (refine kretct Tryz.results48 rfl rfl Tryz.isAgg101 Tryz.sizeOf101 zin (rfl) (L1 := [caP A C] ++ R) zge ?_
       exact ⟨_, ⟨rfl, .inr ⟨rcN, [.nilIface, i64 0, i64 0, i64 0, i64 0, i64 0, i64 0], rfl, recW_one none _ _ _ _ _ _, rfl⟩⟩, rfl⟩)
 ·(try simp only [sH] at h20)
  refine ygo ?_
  refine ymv ?_
  refine ygo ?_
  refine y (ev_lss rfl rfl) rfl ?_
  refine ypb ?_
  refine ymv ?_
  refine ysplit 26 rfl (fun h31 => ?_) (fun h31 => ?_)
  ·(try simp only [sH] at h31)
   refine ygz ?_
   refine ygz ?_
   refine ygz ?_
   refine ygz ?_
   refine ygz ?_
   refine ypa ?_
   refine ynil' (kthn (hK5 _ _ ?_))
   clear hK5
   refine ccond1 rfl ?_
   refine cseq ?_; intro K7 hK7
   refine creg ?_
   have rcN : readC C.bl bs = none := by
     have hbad : badC bs = true := by
       unfold badC; rw [hde]; simp only [Bool.or_eq_true, Bool.not_eq_true', decide_eq_false_iff_not, decide_eq_true_eq]
       first | (left; left; assumption) | (left; right; omega) | (right; assumption)
     unfold readC; rw [if_pos hbad]
   refine y (ev_build (zs := _) rfl Tryz.underlying101 Tryz.zeroValue101 rfl (.cons Tryz.sizeOf20 (.cons Tryz.sizeOf82 .nil)) trivial (by dsimp [fillL, splice, vcells] <;> rfl)) rfl ?_
   refine ya0 (ac_storeAll rfl rfl (by first | exact bytesV_one _ | (simp [Value.oneCell']; done) | (simp only [List.forall_mem_cons, List.not_mem_nil, false_implies, implies_true, svVal_one, and_true, true_and, and_self]; first | done | simp [Value.oneCell'])) Tryz.sizeOf101 zrp (by first | rfl | assumption | (simp [*]; done) | (simp [*]; omega)) (by first | rfl | assumption | (simp [*]; done) | (simp [*]; omega))) ?_
   rintro v L' ⟨rfl, rfl⟩
   refine yas ?_
   refine ynil' (kthn (hK7 _ _ ?_))
   clear hK7
   refine cret (kthr ?_)
   first
     | (exfalso; omega; done)
     | (refine kretct Tryz.results48 rfl rfl Tryz.isAgg101 Tryz.sizeOf101 zin (rfl) (L1 := [caP A C] ++ R) zge ?_
        exact ⟨_, ⟨rfl, .inr ⟨rcN, [.nilIface, i64 0, i64 0, i64 0, i64 0, i64 0, i64 0], rfl, recW_one none _ _ _ _ _ _, rfl⟩⟩, rfl⟩)
  ·(try simp only [sH] at h31)
   have h6 : 6 ≤ rc.nums.length := by omega
   have hk6 : ((rc.nums.length : Int) - 6).toNat = rc.nums.length - 6 := by omega
   refine ygo ?_
   refine y (ev_fieldAddr 1 rfl Tryz.underlying126 rfl Tryz.sizeOf56) rfl ?_
   refine ygo ?_
   refine y (ev_load rfl Tryz.isAgg56 zin rfl) rfl ?_
   refine ygo ?_
   refine ymv ?_
   refine ygo ?_
   refine y (ev_slLV hvn rfl rfl Tryz.underlying56 Tryz.sizeOf2 (by omega) (by omega)) rfl ?_
   rw [hk6]
   have hd : RdV [svSeg sn13 2 (intsV rc.nums)] (vSl (svVal sn13 rc.nums.length) (rc.nums.length - 6) rc.nums.length 1) (rc.nums.drop (rc.nums.length - 6)).length (intsV (rc.nums.drop (rc.nums.length - 6))) := by
     have h1 := hvn.sl hcap (lo := rc.nums.length - 6) (hi := rc.nums.length) (s := 1) (by omega) (by omega) (by simp [intsV])
     have e1 : (rc.nums.drop (rc.nums.length - 6)).length = rc.nums.length - (rc.nums.length - 6) := by simp
     rw [e1, intsV_drop]
     rw [List.take_of_length_le (by simp [intsV]), Nat.mul_one] at h1
     exact h1
   refine ygo ?_
   refine ycall (kContainsInt (p := oddN) (ns := rc.nums.drop (rc.nums.length - 6)) ?hv40 (by simp; omega) Tryz.call42 (fun R n => kOdd)) rfl Tryz.call66 ztk rfl ?_
   case hv40 => first | exact hd.mono zge | exact htk.mono zge
   rintro v L' ⟨rfl, rfl⟩
   refine ypb ?_
   refine ynil' (kthn (hK5 _ _ ?_))
   clear hK5
   refine ccond rfl (fun h42 => ?_) (fun h42 => ?_)
   ·(try simp only [sH] at h42)
    refine cseq ?_; intro K8 hK8
    refine creg ?_
    have rcN : readC C.bl bs = none := by
      have hbad : badC bs = true := by
        unfold badC; rw [hde]; simp only [Bool.or_eq_true, Bool.not_eq_true', decide_eq_false_iff_not, decide_eq_true_eq]
        first | (left; left; assumption) | (left; right; omega) | (right; assumption)
      unfold readC; rw [if_pos hbad]
    refine y (ev_build (zs := _) rfl Tryz.underlying101 Tryz.zeroValue101 rfl (.cons Tryz.sizeOf20 (.cons Tryz.sizeOf82 .nil)) trivial (by dsimp [fillL, splice, vcells] <;> rfl)) rfl ?_
    refine ya0 (ac_storeAll rfl rfl (by first | exact bytesV_one _ | (simp [Value.oneCell']; done) | (simp only [List.forall_mem_cons, List.not_mem_nil, false_implies, implies_true, svVal_one, and_true, true_and, and_self]; first | done | simp [Value.oneCell'])) Tryz.sizeOf101 zrp (by first | rfl | assumption | (simp [*]; done) | (simp [*]; omega)) (by first | rfl | assumption | (simp [*]; done) | (simp [*]; omega))) ?_
    rintro v L' ⟨rfl, rfl⟩
    refine yas ?_
    refine ynil' (kthn (hK8 _ _ ?_))
    clear hK8
    refine cret (kthr ?_)
    first
      | (exfalso; omega; done)
      | (refine kretct Tryz.results48 rfl rfl Tryz.isAgg101 Tryz.sizeOf101 zin (rfl) (L1 := [caP A C] ++ R) zge ?_
         exact ⟨_, ⟨rfl, .inr ⟨rcN, [.nilIface, i64 0, i64 0, i64 0, i64 0, i64 0, i64 0], rfl, recW_one none _ _ _ _ _ _, rfl⟩⟩, rfl⟩)
   ·(try simp only [sH] at h42)
    refine cskip' (kthn (hK4 _ _ ?_))
    clear hK4
    refine cseq ?_; intro K9 hK9
    refine cdrawN 9 (.op 0 0 (.op 1 1 (.op 2 0 (.op 3 1 (.op 4 0 (.op 5 0 (.fork 6 (.op 7 0 (.op 8 2 (.nil))) 8 (.op 6 2 (.op 7 0 (.nil)))))))))) (_) Tryz.mixed (by kernel_rfl) .refl ?_
    obtain ⟨n0, n1, n2, n3, n4, n5, hdr⟩ := len6d h6
    have hbad : badC bs = false := by
      unfold badC; rw [hde]; simp only [Bool.or_eq_false_iff, Bool.not_eq_false', decide_eq_false_iff_not, decide_eq_true_eq]
      refine ⟨⟨?_, ?_⟩, ?_⟩
      · assumption
      · omega
      · assumption
    have hrd : readC C.bl bs = (whatC C.bl rc.kind rc.texts (rc.nums.take (rc.nums.length - 6))).map (fun w => ⟨w, ⟨n0, n1, ⟨n2, n3, n4, n5⟩⟩⟩) := by
      unfold readC; rw [if_neg (by rw [hbad]; simp), hde]; dsimp only; rw [hdr]; cases whatC C.bl rc.kind rc.texts (rc.nums.take (rc.nums.length - 6)) <;> rfl
    refine nz rfl (ev_move rfl) rfl ?_
    refine nr rfl (ev_loadAll rfl Tryz.isAgg126 Tryz.sizeOf126 zin (by first | rfl | assumption | (simp [*]; done) | (simp [*]; omega))) rfl ?_
    refine nz rfl (ev_fieldAddr 1 rfl Tryz.underlying126 rfl Tryz.sizeOf56) rfl ?_
    refine nr rfl (ev_load rfl Tryz.isAgg56 zin rfl) rfl ?_
    refine nz rfl (ev_move rfl) rfl ?_
    refine nz rfl (ev_slHV hvn hcap rfl rfl Tryz.underlying56 Tryz.sizeOf2 (by omega) (by omega)) rfl ?_
    rw [hk6]
    have htk : RdV [svSeg sn13 2 (intsV rc.nums)] (vSl (svVal sn13 rc.nums.length) 0 (rc.nums.length - 6) 1) (rc.nums.take (rc.nums.length - 6)).length (intsV (rc.nums.take (rc.nums.length - 6))) := by
      have h1 := hvn.sl hcap (lo := 0) (hi := rc.nums.length - 6) (s := 1) (by omega) (by omega) (by simp [intsV])
      have e1 : (rc.nums.take (rc.nums.length - 6)).length = rc.nums.length - 6 - 0 := by simp
      rw [e1, intsV_take]
      rw [Nat.zero_mul, List.drop_zero, Nat.mul_one, Nat.sub_zero] at h1
      exact h1
    refine nfork ?_ ?_
    ·skip
     refine ncall rfl (kWhat (kind := rc.kind) (ts := rc.texts) (ns := rc.nums.take (rc.nums.length - 6)) ?bl52 ?hv52 ?htv52 ?hno52) rfl Tryz.call67 ztk rfl ?_
     case bl52 => exact hb
     case hv52 => first | exact hd.mono zge | exact htk.mono zge
     case htv52 => exact htn.mono zge
     case hno52 => exact svVal_one _ _
     rintro v L' ⟨rfl, rfl⟩; refine ⟨zge, ?_⟩
     generalize whatC C.bl rc.kind rc.texts (rc.nums.take (rc.nums.length - 6)) = wo at *
     refine nz rfl (ev_build (zs := [.nilIface, i64 0, i64 0, i64 0, i64 0, i64 0, i64 0]) (vs := [whatV wo, i64 0, i64 0, i64 0, i64 0, i64 0, i64 0]) rfl Tryz.underlying101 Tryz.zeroValue101 rfl (.cons Tryz.sizeOf20 (.cons Tryz.sizeOf82 .nil)) ⟨⟨_, _, rfl, (by rw [vcells_what]; rfl), (by decide)⟩, trivial⟩ (by simp [fillL, splice, vcells_what])) rfl ?_
     refine na rfl (ac_alloc Tryz.zeroValue101 rfl) rfl ?_
     rintro v L' ⟨b9, rfl, rfl⟩; refine ⟨zge, ?_⟩
     refine nnil ?_
     refine ya0 (ac_storeAll rfl rfl (recW_one _ _ _ _ _ _ _) Tryz.sizeOf101 zrp rfl rfl) ?_
     rintro v L' ⟨rfl, rfl⟩
     refine hnoP' (kthn (hK9 _ _ ?_))
     clear hK9
     refine cseq ?_; intro K10 hK10
     refine cdraw 14 [(0, true), (1, true), (2, true), (3, true), (4, true), (5, true), (6, true), (7, true), (8, true), (9, true), (10, true), (11, true), (12, true), (13, true)] (_) Tryz.mixed (by kernel_rfl) .refl ?_
     refine hr rfl (ev_fieldAddr 1 rfl Tryz.underlying126 rfl Tryz.sizeOf56) rfl ?_
     refine hr rfl (ev_load rfl Tryz.isAgg56 zin rfl) rfl ?_
     refine hr rfl (ev_move rfl) rfl ?_
     refine hr rfl (ev_ixV hvn rfl rfl Tryz.underlying56 Tryz.sizeOf2 (by omega) (by omega)) rfl ?_
     refine hr rfl (ev_loadV (rc.nums.length - 6 + 0) hvn zge rfl Tryz.isAgg2 (by rw [hk6, Nat.mul_one]; rfl) (ints_at (x := n0) (by rw [hdr]; rfl))) rfl ?_
     refine hr rfl (ev_fieldAddr 1 rfl Tryz.underlying126 rfl Tryz.sizeOf56) rfl ?_
     refine hr rfl (ev_load rfl Tryz.isAgg56 zin rfl) rfl ?_
     refine hr rfl (ev_move rfl) rfl ?_
     refine hr rfl (ev_add rfl rfl) rfl ?_
     rw [wr (by omega) (by omega)]
     refine hr rfl (ev_ixV hvn rfl rfl Tryz.underlying56 Tryz.sizeOf2 (by omega) (by omega)) rfl ?_
     refine hr rfl (ev_loadV (rc.nums.length - 6 + 1) hvn zge rfl Tryz.isAgg2 (by rw [Nat.mul_one]; omega) (ints_at (x := n1) (by rw [hdr]; rfl))) rfl ?_
     refine hr rfl (ev_build (zs := _) rfl Tryz.underlying31 Tryz.zeroValue31 rfl (.cons Tryz.sizeOf2 (.cons Tryz.sizeOf2 .nil)) ⟨⟨_, _, rfl, (by first | rfl | simp), (by first | decide | simp)⟩, ⟨⟨_, _, rfl, (by first | rfl | simp), (by first | decide | simp)⟩, trivial⟩⟩ (by dsimp [fillL, splice, vcells] <;> rfl)) rfl ?_
     refine hr rfl (ev_fieldAddr 1 rfl Tryz.underlying101 rfl Tryz.sizeOf82) rfl ?_
     refine hr rfl (ev_fieldAddr 0 rfl Tryz.underlying82 rfl Tryz.sizeOf31) rfl ?_
     refine hnil ?_
     refine ya0 (ac_storeN (vs' := [whatV wo, i64 n0, i64 n1, i64 0, i64 0, i64 0, i64 0]) rfl rfl (by simp [Value.oneCell']) Tryz.sizeOf31 zrp rfl (by simp) rfl) ?_
     rintro v L' ⟨rfl, rfl⟩
     refine hnoP' (kthn (hK10 _ _ ?_))
     clear hK10
     refine cseq ?_; intro K11 hK11
     refine cdraw 8 [(0, true), (1, true), (2, true), (3, true), (4, true), (5, true), (6, true), (7, true)] (_) Tryz.mixed (by kernel_rfl) .refl ?_
     refine hr rfl (ev_fieldAddr 1 rfl Tryz.underlying101 rfl Tryz.sizeOf82) rfl ?_
     refine hr rfl (ev_fieldAddr 2 rfl Tryz.underlying82 rfl Tryz.sizeOf48) rfl ?_
     refine hr rfl (ev_slA rfl Tryz.underlying48 Tryz.sizeOf2) rfl ?_
     refine hr rfl (ev_fieldAddr 1 rfl Tryz.underlying126 rfl Tryz.sizeOf56) rfl ?_
     refine hr rfl (ev_load rfl Tryz.isAgg56 zin rfl) rfl ?_
     refine hr rfl (ev_move rfl) rfl ?_
     refine hr rfl (ev_add rfl rfl) rfl ?_
     rw [wr (by omega) (by omega)]
     refine hr rfl (ev_slLV hvn rfl rfl Tryz.underlying56 Tryz.sizeOf2 (by omega) (by omega)) rfl ?_
     rw [show ((rc.nums.length : Int) - 6 + 2).toNat = rc.nums.length - 6 + 2 by omega]
     have hd2 : RdV [svSeg sn13 2 (intsV rc.nums)] (vSl (svVal sn13 rc.nums.length) (rc.nums.length - 6 + 2) rc.nums.length 1) 4 [i64 n2, i64 n3, i64 n4, i64 n5] := by
       have h1 := hvn.sl hcap (lo := rc.nums.length - 6 + 2) (hi := rc.nums.length) (s := 1) (by omega) (by omega) (by simp [intsV])
       rw [List.take_of_length_le (by simp [intsV]), Nat.mul_one, ← intsV_drop, ← List.drop_drop, hdr, show rc.nums.length - (rc.nums.length - 6 + 2) = 4 by omega] at h1
       exact h1
     refine hnil ?_
     refine ya (ac_copyV (m := 4) (us := [i64 n2, i64 n3, i64 n4, i64 n5]) (vs' := [whatV wo, i64 n0, i64 n1, i64 n2, i64 n3, i64 n4, i64 n5]) rfl rfl Tryz.underlying56 Tryz.sizeOf2 ((hd2.mono zge).src rfl) (by simp [Value.oneCell']) (by decide) zrp (by simp) rfl) rfl ?_
     rintro v L' ⟨rfl, rfl⟩
     refine hnoP' (kthn (hK11 _ _ ?_))
     clear hK11
     refine cseq ?_; intro K12 hK12
     refine cdraw 5 [(0, true), (1, true), (2, true), (3, true), (4, false)] ([sc b9 [whatV wo, i64 n0, i64 n1, i64 n2, i64 n3, i64 n4, i64 n5] 101, caP A C] ++ R) Tryz.mixed (by kernel_rfl) zge ?_
     refine hr rfl (ev_loadN (u := [whatV wo, i64 n0, i64 n1, i64 n2, i64 n3, i64 n4, i64 n5]) rfl Tryz.isAgg101 Tryz.sizeOf101 zin rfl rfl) rfl ?_
     refine hr rfl (ev_fieldAddr 0 rfl Tryz.underlying101 rfl Tryz.sizeOf20) rfl ?_
     refine hr rfl (ev_load rfl Tryz.isAgg20 zin rfl) rfl ?_
     refine hr rfl (ev_neqIn rfl Tryz.underlying20 (whatV_iface wo)) rfl ?_
     rw [isW]
     refine haN rfl (ac_storeAll rfl rfl (recW_one _ _ _ _ _ _ _) Tryz.sizeOf101 zrp rfl rfl) ?_
     rintro v L' ⟨rfl, rfl⟩; refine ⟨zge, ?_⟩
     refine hnil ?_
     refine yas ?_
     refine hnoP' (kthn (hK12 _ _ ?_))
     clear hK12
     refine cret ?_
     first
       | (exfalso; omega; done)
       | (refine kretct Tryz.results48 rfl rfl Tryz.isAgg101 Tryz.sizeOf101 zin (rfl) (L1 := [caP A C] ++ R) zge ?_
          refine ⟨_, ⟨rfl, ?_⟩, rfl⟩; cases wo with | none => exact .inr ⟨hrd, _, rfl, recW_one none n0 n1 n2 n3 n4 n5, rfl⟩ | some w => exact .inl ⟨_, hrd, rfl⟩)
    ·skip
     refine na rfl (ac_alloc Tryz.zeroValue101 rfl) rfl ?_
     rintro v L' ⟨b9, rfl, rfl⟩; refine ⟨zge, ?_⟩
     refine ncall rfl (kWhat (kind := rc.kind) (ts := rc.texts) (ns := rc.nums.take (rc.nums.length - 6)) ?bl87 ?hv87 ?htv87 ?hno87) rfl Tryz.call67 ztk rfl ?_
     case bl87 => exact hb
     case hv87 => first | exact hd.mono zge | exact htk.mono zge
     case htv87 => exact htn.mono zge
     case hno87 => exact svVal_one _ _
     rintro v L' ⟨rfl, rfl⟩; refine ⟨zge, ?_⟩
     generalize whatC C.bl rc.kind rc.texts (rc.nums.take (rc.nums.length - 6)) = wo at *
     refine nz rfl (ev_build (zs := [.nilIface, i64 0, i64 0, i64 0, i64 0, i64 0, i64 0]) (vs := [whatV wo, i64 0, i64 0, i64 0, i64 0, i64 0, i64 0]) rfl Tryz.underlying101 Tryz.zeroValue101 rfl (.cons Tryz.sizeOf20 (.cons Tryz.sizeOf82 .nil)) ⟨⟨_, _, rfl, (by rw [vcells_what]; rfl), (by decide)⟩, trivial⟩ (by simp [fillL, splice, vcells_what])) rfl ?_
     refine nnil ?_
     refine ya0 (ac_storeAll rfl rfl (recW_one _ _ _ _ _ _ _) Tryz.sizeOf101 zrp rfl rfl) ?_
     rintro v L' ⟨rfl, rfl⟩
     refine hnoP' (kthn (hK9 _ _ ?_))
     clear hK9
     refine cseq ?_; intro K13 hK13
     refine cdraw 14 [(0, true), (1, true), (2, true), (3, true), (4, true), (5, true), (6, true), (7, true), (8, true), (9, true), (10, true), (11, true), (12, true), (13, true)] (_) Tryz.mixed (by kernel_rfl) .refl ?_
     refine hr rfl (ev_fieldAddr 1 rfl Tryz.underlying126 rfl Tryz.sizeOf56) rfl ?_
     refine hr rfl (ev_load rfl Tryz.isAgg56 zin rfl) rfl ?_
     refine hr rfl (ev_move rfl) rfl ?_
     refine hr rfl (ev_ixV hvn rfl rfl Tryz.underlying56 Tryz.sizeOf2 (by omega) (by omega)) rfl ?_
     refine hr rfl (ev_loadV (rc.nums.length - 6 + 0) hvn zge rfl Tryz.isAgg2 (by rw [hk6, Nat.mul_one]; rfl) (ints_at (x := n0) (by rw [hdr]; rfl))) rfl ?_
     refine hr rfl (ev_fieldAddr 1 rfl Tryz.underlying126 rfl Tryz.sizeOf56) rfl ?_
     refine hr rfl (ev_load rfl Tryz.isAgg56 zin rfl) rfl ?_
     refine hr rfl (ev_move rfl) rfl ?_
     refine hr rfl (ev_add rfl rfl) rfl ?_
     rw [wr (by omega) (by omega)]
     refine hr rfl (ev_ixV hvn rfl rfl Tryz.underlying56 Tryz.sizeOf2 (by omega) (by omega)) rfl ?_
     refine hr rfl (ev_loadV (rc.nums.length - 6 + 1) hvn zge rfl Tryz.isAgg2 (by rw [Nat.mul_one]; omega) (ints_at (x := n1) (by rw [hdr]; rfl))) rfl ?_
     refine hr rfl (ev_build (zs := _) rfl Tryz.underlying31 Tryz.zeroValue31 rfl (.cons Tryz.sizeOf2 (.cons Tryz.sizeOf2 .nil)) ⟨⟨_, _, rfl, (by first | rfl | simp), (by first | decide | simp)⟩, ⟨⟨_, _, rfl, (by first | rfl | simp), (by first | decide | simp)⟩, trivial⟩⟩ (by dsimp [fillL, splice, vcells] <;> rfl)) rfl ?_
     refine hr rfl (ev_fieldAddr 1 rfl Tryz.underlying101 rfl Tryz.sizeOf82) rfl ?_
     refine hr rfl (ev_fieldAddr 0 rfl Tryz.underlying82 rfl Tryz.sizeOf31) rfl ?_
     refine hnil ?_
     refine ya0 (ac_storeN (vs' := [whatV wo, i64 n0, i64 n1, i64 0, i64 0, i64 0, i64 0]) rfl rfl (by simp [Value.oneCell']) Tryz.sizeOf31 zrp rfl (by simp) rfl) ?_
     rintro v L' ⟨rfl, rfl⟩
     refine hnoP' (kthn (hK13 _ _ ?_))
     clear hK13
     refine cseq ?_; intro K14 hK14
     refine cdraw 8 [(0, true), (1, true), (2, true), (3, true), (4, true), (5, true), (6, true), (7, true)] (_) Tryz.mixed (by kernel_rfl) .refl ?_
     refine hr rfl (ev_fieldAddr 1 rfl Tryz.underlying101 rfl Tryz.sizeOf82) rfl ?_
     refine hr rfl (ev_fieldAddr 2 rfl Tryz.underlying82 rfl Tryz.sizeOf48) rfl ?_
     refine hr rfl (ev_slA rfl Tryz.underlying48 Tryz.sizeOf2) rfl ?_
     refine hr rfl (ev_fieldAddr 1 rfl Tryz.underlying126 rfl Tryz.sizeOf56) rfl ?_
     refine hr rfl (ev_load rfl Tryz.isAgg56 zin rfl) rfl ?_
     refine hr rfl (ev_move rfl) rfl ?_
     refine hr rfl (ev_add rfl rfl) rfl ?_
     rw [wr (by omega) (by omega)]
     refine hr rfl (ev_slLV hvn rfl rfl Tryz.underlying56 Tryz.sizeOf2 (by omega) (by omega)) rfl ?_
     rw [show ((rc.nums.length : Int) - 6 + 2).toNat = rc.nums.length - 6 + 2 by omega]
     have hd2 : RdV [svSeg sn13 2 (intsV rc.nums)] (vSl (svVal sn13 rc.nums.length) (rc.nums.length - 6 + 2) rc.nums.length 1) 4 [i64 n2, i64 n3, i64 n4, i64 n5] := by
       have h1 := hvn.sl hcap (lo := rc.nums.length - 6 + 2) (hi := rc.nums.length) (s := 1) (by omega) (by omega) (by simp [intsV])
       rw [List.take_of_length_le (by simp [intsV]), Nat.mul_one, ← intsV_drop, ← List.drop_drop, hdr, show rc.nums.length - (rc.nums.length - 6 + 2) = 4 by omega] at h1
       exact h1
     refine hnil ?_
     refine ya (ac_copyV (m := 4) (us := [i64 n2, i64 n3, i64 n4, i64 n5]) (vs' := [whatV wo, i64 n0, i64 n1, i64 n2, i64 n3, i64 n4, i64 n5]) rfl rfl Tryz.underlying56 Tryz.sizeOf2 ((hd2.mono zge).src rfl) (by simp [Value.oneCell']) (by decide) zrp (by simp) rfl) rfl ?_
     rintro v L' ⟨rfl, rfl⟩
     refine hnoP' (kthn (hK14 _ _ ?_))
     clear hK14
     refine cseq ?_; intro K15 hK15
     refine cdraw 5 [(0, true), (1, true), (2, true), (3, true), (4, false)] ([sc b9 [whatV wo, i64 n0, i64 n1, i64 n2, i64 n3, i64 n4, i64 n5] 101, caP A C] ++ R) Tryz.mixed (by kernel_rfl) zge ?_
     refine hr rfl (ev_loadN (u := [whatV wo, i64 n0, i64 n1, i64 n2, i64 n3, i64 n4, i64 n5]) rfl Tryz.isAgg101 Tryz.sizeOf101 zin rfl rfl) rfl ?_
     refine hr rfl (ev_fieldAddr 0 rfl Tryz.underlying101 rfl Tryz.sizeOf20) rfl ?_
     refine hr rfl (ev_load rfl Tryz.isAgg20 zin rfl) rfl ?_
     refine hr rfl (ev_neqIn rfl Tryz.underlying20 (whatV_iface wo)) rfl ?_
     rw [isW]
     refine haN rfl (ac_storeAll rfl rfl (recW_one _ _ _ _ _ _ _) Tryz.sizeOf101 zrp rfl rfl) ?_
     rintro v L' ⟨rfl, rfl⟩; refine ⟨zge, ?_⟩
     refine hnil ?_
     refine yas ?_
     refine hnoP' (kthn (hK15 _ _ ?_))
     clear hK15
     refine cret ?_
     first
       | (exfalso; omega; done)
       | (refine kretct Tryz.results48 rfl rfl Tryz.isAgg101 Tryz.sizeOf101 zin (rfl) (L1 := [caP A C] ++ R) zge ?_
          refine ⟨_, ⟨rfl, ?_⟩, rfl⟩; cases wo with | none => exact .inr ⟨hrd, _, rfl, recW_one none n0 n1 n2 n3 n4 n5, rfl⟩ | some w => exact .inl ⟨_, hrd, rfl⟩)
end W
end Go.Proofs
