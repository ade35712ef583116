/- A part of the proof: contracts and plain lemmas, each without conditions beyond those that it names. -/
import Derived.Test.YtediodfmkbfomaaGreatT3
import Derived.Test.YtediodfmkbfomaaGreatGF
set_option linter.unusedVariables false
set_option linter.unusedSimpArgs false
set_option linter.constructorNameAsVariable false
namespace Go.Proofs
open Go Go.Sl
namespace W
set_option linter.unusedVariables false
abbrev nilS : Value := .slice none 0 0
def recP (b : Nat) (k : Int) (sn : Sv) (n : Nat) (st : Sv) (m : Nat) : Seg := sc b [i64 k, svVal sn n, svVal st m] 126
def recV (r : RecM) (sn st : Sv) : Value := .agg #[i64 r.kind, svVal sn r.nums.length, svVal st r.texts.length]
/-- A record's two slices, as they lie. -/
structure RecOk (r : RecM) (sn st : Sv) : Prop where
 n : svOk sn r.nums.length 1 (intsV r.nums)
 t : svOk st r.texts.length 1 (strsV r.texts)
abbrev recSegs (r : RecM) (sn st : Sv) : List Seg := [svSeg sn 2 (intsV r.nums), svSeg st 9 (strsV r.texts)]
theorem cRec [Env] {R : List Seg} {p : Nat} {v : Value} {bs : Bytes} (hb : RdY R v bs) :
   ConP Tryz.prog 82 [ptr p] [rdrP p v] R (fun u L' => ∃ r sn st v', recD bs = some r ∧ u = recV r sn st ∧ RecOk r sn st ∧ L' = rdrP p v' :: recSegs r sn st) badV (fun L' => recD bs = none ∧ ∃ v', L' = [rdrP p v']) := by
 refine conP_enter Tryz.func82 Tryz.ntmps82 rfl rfl ?_
 refine cseq ?_; intro K1 hK1
 refine creg ?_
 refine ya (ac_alloc Tryz.zeroValue126 rfl) rfl ?_
 rintro v L' ⟨b2, rfl, rfl⟩
 refine ynil' (kthn (hK1 _ _ ?_))
 clear hK1
 refine cseq ?_; intro K2 hK2
 refine creg ?_
 refine ymv ?_
 refine ycallP (cTake (bs := bs) ?hb3 ?hz3) rfl Tryz.call98 ztk rfl ?_ ?_
 case hb3 => first | exact hb.mono zge | exact hb1.mono zge
 case hz3 => first | decide | omega
 ·rintro L' ⟨hlt9, rfl⟩
  refine kthp ?_
  refine kpan (L1 := [sc p _ 155] ++ R) zge ?_
  exact ⟨_, ⟨recD_short (by omega), _, rfl⟩, rfl⟩
 rintro v L' ⟨hle9, rfl, rfl⟩
 obtain ⟨k0, h0, r, rfl⟩ : ∃ k h r, bs = k :: h :: r := by match bs, hle9 with | k :: h :: r, _ => exact ⟨k, h, r, rfl⟩
 have hv9 := rd2 hb
 have hb1 := rdr2 hb
 have hkl := k0.toNat_lt
 have hhl := h0.toNat_lt
 refine yas ?_
 refine ynil' (kthn (hK2 _ _ ?_))
 clear hK2
 refine cseq ?_; intro K3 hK3
 refine creg ?_
 refine ymv ?_
 refine y (ev_ixV hv9 rfl rfl Tryz.underlying22 Tryz.sizeOf5 (by decide) (by decide)) rfl ?_
 refine y (ev_loadV 0 hv9 zge rfl Tryz.isAgg5 rfl rfl) rfl ?_
 refine y (ev_conv rfl Tryz.underlying5 Tryz.underlying3) rfl ?_
 rw [wr (by omega) (by omega)]
 refine y (ev_build (zs := _) rfl Tryz.underlying126 Tryz.zeroValue126 rfl (.cons Tryz.sizeOf3 (.cons Tryz.sizeOf56 (.cons Tryz.sizeOf98 .nil))) ⟨⟨_, _, rfl, (by first | rfl | simp), (by first | decide | simp)⟩, trivial⟩ (by dsimp [fillL, splice, vcells] <;> rfl)) rfl ?_
 refine ya (ac_alloc Tryz.zeroValue126 rfl) rfl ?_
 rintro v L' ⟨b4, rfl, rfl⟩
 refine ya0 (ac_storeAll rfl rfl (by first | exact bytesV_one _ | (simp [Value.oneCell']; done) | (simp only [List.forall_mem_cons, List.not_mem_nil, false_implies, implies_true, svVal_one, and_true, true_and, and_self]; first | done | simp [Value.oneCell'])) Tryz.sizeOf126 zrp (by first | rfl | assumption | (simp [*]; done) | (simp [*]; omega)) (by first | rfl | assumption | (simp [*]; done) | (simp [*]; omega))) ?_
 rintro v L' ⟨rfl, rfl⟩
 refine ynil' (kthn (hK3 _ _ ?_))
 clear hK3
 refine cseq ?_; intro K4 hK4
 refine cdrawP 11 [(0, true), (1, true), (2, true), (3, true), (4, true), (5, true), (6, true), (7, true), (8, true), (9, true), (10, true)] (_) _ (fun c a w h1 h2 => ⟨h1, h2⟩) Tryz.mixed (by kernel_rfl) .refl ?_
 refine hr rfl (ev_move rfl) rfl ?_
 refine hr rfl (ev_ixV hv9 rfl rfl Tryz.underlying22 Tryz.sizeOf5 (by decide) (by decide)) rfl ?_
 refine hr rfl (ev_loadV 1 hv9 zge rfl Tryz.isAgg5 rfl rfl) rfl ?_
 refine hr rfl (ev_rem rfl rfl (by decide)) rfl ?_
 rw [show ((h0.toNat : Int)).tmod 16 = ((h0.toNat % 16 : Nat) : Int) from rfl]
 refine hr rfl (ev_conv rfl Tryz.underlying5 Tryz.underlying3) rfl ?_
 rw [wr (by omega) (by omega)]
 refine hr rfl (ev_move rfl) rfl ?_
 refine hr rfl (ev_ixV hv9 rfl rfl Tryz.underlying22 Tryz.sizeOf5 (by decide) (by decide)) rfl ?_
 refine hr rfl (ev_loadV 1 hv9 zge rfl Tryz.isAgg5 rfl rfl) rfl ?_
 refine hr rfl (ev_quo rfl rfl (by decide)) rfl ?_
 rw [wu8, show ((h0.toNat : Int)).tdiv 16 = ((h0.toNat / 16 : Nat) : Int) from rfl, show ((h0.toNat / 16 : Nat) : Int) % 256 = ((h0.toNat / 16 : Nat) : Int) by omega]
 refine hr rfl (ev_conv rfl Tryz.underlying5 Tryz.underlying3) rfl ?_
 rw [wr (by omega) (by omega)]
 refine hr rfl (ev_assign rfl) rfl ?_
 refine hnil ?_
 refine yas ?_
 refine hwP (kthn (hK4 _ _ ?_))
 clear hK4
 refine cseq ?_; intro K5 hK5
 have hJr6 : ∀ x : Nat × Nat, (x.1 = headN h0.toNat ∧ x.2 = headT h0.toNat) → Sk 80 K5 ([(6, i64 x.2), (5, i64 x.1), (4, ptr b4), (2, ptr b2), (0, ptr p)]) ([rdrP p (vSl v 2 (k0 :: h0 :: r).length 1), recP b4 k0.toNat none 0 none 0, sc b2 [i64 0, nilS, nilS] 126] ++ R) := by
  rintro ⟨nm, tx⟩ hIr6
  refine hK5 _ _ ?_
  obtain ⟨hnm, htx⟩ := hIr6; dsimp only at hnm htx ⊢; have hn16 := headN_le h0; rw [← hnm] at hn16; unfold recP
  refine cseq ?_; intro K6 hK6
  refine cseq ?_; intro K7 hK7
  refine creg ?_
  refine ymv ?_
  refine y (ev_gtr rfl rfl) rfl ?_
  refine ynil' (kthn (hK7 _ _ ?_))
  clear hK7
  refine ccond rfl (fun h26 => ?_) (fun h26 => ?_)
  ·(try simp only [sH] at h26)
   refine creg ?_
   refine y (ev_build (zs := _) rfl Tryz.underlying152 Tryz.zeroValue152 rfl .nil trivial (by dsimp [fillL, splice, vcells] <;> rfl)) rfl ?_
   refine y (ev_iface rfl (by kernel_rfl)) rfl ?_
   refine ypanic rfl ?_
   refine kthp ?_
   refine kpan (L1 := [sc p _ 155] ++ R) zge ?_
   exact ⟨_, ⟨recD_many (by omega), _, rfl⟩, rfl⟩
  ·(try simp only [sH] at h26)
   have ht4 : ¬ 4 < headT h0.toNat := by omega
   refine cskip' (kthn (hK6 _ _ ?_))
   clear hK6
   refine cseq ?_; intro K8 hK8
   refine cseq ?_; intro K9 hK9
   refine creg ?_
   refine ymv ?_
   refine ymv ?_
   refine ynil' (kthn (hK9 _ _ ?_))
   clear hK9
   have hJ1 : ∀ x : Nat × Sv × List Int × Value × Bytes, ((svOk x.2.1 x.1 1 (intsV x.2.2.1) ∧ RdY R x.2.2.2.1 x.2.2.2.2 ∧ NumsI r nm x.1 x.2.2.1 x.2.2.2.2) ∧ (x.1 = nm)) → Sk 80 K8 ([(39, i64 x.1), (38, i64 nm), (6, i64 tx), (4, ptr b4), (2, ptr b2), (0, ptr p)]) ([rdrP p x.2.2.2.1, recP b4 k0.toNat x.2.1 x.1 none 0, svSeg x.2.1 2 (intsV x.2.2.1), sc b2 [i64 0, nilS, nilS] 126] ++ R) := by
    rintro ⟨k, sn, ns, v1, b1⟩ ⟨hI1, hX1⟩
    refine hK8 _ _ ?_
    obtain ⟨okn, hb1, hni⟩ := hI1; dsimp only at okn hb1 hni ⊢; have hkn := hni.le; unfold recP
    dsimp only at hX1; subst hX1; have hnd := hni.done; rw [hnm] at hnd
    refine cseq ?_; intro K10 hK10
    refine cseq ?_; intro K11 hK11
    refine creg ?_
    refine ymv ?_
    refine ymv ?_
    refine ynil' (kthn (hK11 _ _ ?_))
    clear hK11
    have hJ2 : ∀ x : Nat × Sv × List Bytes × Value × Bytes, ((svOk x.2.1 x.1 1 (strsV x.2.2.1) ∧ RdY R x.2.2.2.1 x.2.2.2.2 ∧ TextsI b1 tx x.1 x.2.2.1 x.2.2.2.2) ∧ (x.1 = tx)) → Sk 80 K10 ([(50, i64 x.1), (49, i64 tx), (4, ptr b4), (2, ptr b2), (0, ptr p)]) ([rdrP p x.2.2.2.1, recP b4 k0.toNat sn k x.2.1 x.1, svSeg x.2.1 9 (strsV x.2.2.1), svSeg sn 2 (intsV ns), sc b2 [i64 0, nilS, nilS] 126] ++ R) := by
     rintro ⟨z, st, ts, vv, bb⟩ ⟨hI2, hX2⟩
     refine hK10 _ _ ?_
     obtain ⟨okt, hb2, hti⟩ := hI2; dsimp only at okt hb2 hti ⊢; have hkt := hti.le; unfold recP
     dsimp only at hX2; subst hX2; have htd := hti.done; rw [htx] at htd; have hv2 := hb2.rd
     refine cseq ?_; intro K12 hK12
     refine cseq ?_; intro K13 hK13
     refine creg ?_
     refine ymv ?_
     refine yni ?_
     refine y (ev_fieldAddr 0 rfl Tryz.underlying155 rfl Tryz.sizeOf22) rfl ?_
     refine y (ev_load rfl Tryz.isAgg22 zin rfl) rfl ?_
     first
       | refine y (ev_len rfl Tryz.underlying22) rfl ?_
       | refine y (ev_lenSv rfl Tryz.underlying22 (by assumption)) rfl ?_
       | refine y (ev_lenV rfl Tryz.underlying22 (RdV.lenVal (by assumption))) rfl ?_
       | refine y (ev_lenV rfl Tryz.underlying22 (RdB.lenVal (by assumption))) rfl ?_
     refine y (ev_gtr rfl rfl) rfl ?_
     refine ynil' (kthn (hK13 _ _ ?_))
     clear hK13
     refine ccond rfl (fun h40 => ?_) (fun h40 => ?_)
     ·(try simp only [sH] at h40)
      refine creg ?_
      refine y (ev_build (zs := _) rfl Tryz.underlying152 Tryz.zeroValue152 rfl .nil trivial (by dsimp [fillL, splice, vcells] <;> rfl)) rfl ?_
      refine y (ev_iface rfl (by kernel_rfl)) rfl ?_
      refine ypanic rfl ?_
      refine kthp ?_
      refine kpan (L1 := [sc p _ 155] ++ R) zge ?_
      exact ⟨_, ⟨recD_more ht4 hnd htd (by intro e; subst e; simp_all), _, rfl⟩, rfl⟩
     ·(try simp only [sH] at h40)
      obtain rfl : bb = [] := List.eq_nil_of_length_eq_zero (by omega)
      refine cskip' (kthn (hK12 _ _ ?_))
      clear hK12
      refine cseq ?_; intro K14 hK14
      refine creg ?_
      refine y (ev_loadAll rfl Tryz.isAgg126 Tryz.sizeOf126 zin (by first | rfl | assumption | (simp [*]; done) | (simp [*]; omega))) rfl ?_
      refine ya0 (ac_storeAll rfl rfl (by first | exact bytesV_one _ | (simp [Value.oneCell']; done) | (simp only [List.forall_mem_cons, List.not_mem_nil, false_implies, implies_true, svVal_one, and_true, true_and, and_self]; first | done | simp [Value.oneCell'])) Tryz.sizeOf126 zrp (by first | rfl | assumption | (simp [*]; done) | (simp [*]; omega)) (by first | rfl | assumption | (simp [*]; done) | (simp [*]; omega))) ?_
      rintro v L' ⟨rfl, rfl⟩
      refine ynil' (kthn (hK14 _ _ ?_))
      clear hK14
      refine cret ?_
      first
        | (exfalso; omega; done)
        | (refine kretcP (by simp) Tryz.results82 rfl Tryz.isAgg126 Tryz.sizeOf126 zin rfl (L1 := [sc p _ 155, svSeg sn 2 (intsV ns), svSeg st 9 (strsV ts)] ++ R) zge ?_
           exact ⟨_, ⟨⟨k0.toNat, ns, ts⟩, sn, st, _, recD_some ht4 hnd htd, by unfold recV; rw [hni.len, hti.len], ⟨by rw [hni.len]; exact okn, by rw [hti.len]; exact okt⟩, rfl⟩, rfl⟩)
    clear hK10
    refine cblock ?_
    refine cloop (A := Nat × Sv × List Bytes × Value × Bytes) (fun x => [(50, i64 x.1), (49, i64 tx), (4, ptr b4), (2, ptr b2), (0, ptr p)]) (fun x => [rdrP p x.2.2.2.1, recP b4 k0.toNat sn k x.2.1 x.1, svSeg x.2.1 9 (strsV x.2.2.1), svSeg sn 2 (intsV ns), sc b2 [i64 0, nilS, nilS] 126] ++ R) (fun x => svOk x.2.1 x.1 1 (strsV x.2.2.1) ∧ RdY R x.2.2.2.1 x.2.2.2.2 ∧ TextsI b1 tx x.1 x.2.2.1 x.2.2.2.2) (fun x => tx - x.1) ((0, none, [], v1, b1)) ?_ zsub zge ?_
    · exact ⟨⟨rfl, rfl⟩, hb1, .zero b1 tx⟩
    rintro ⟨z, st, ts, vv, bb⟩ hI2 KL2 hL2
    have hI2o := hI2
    obtain ⟨okt, hb2, hti⟩ := hI2; dsimp only at okt hb2 hti ⊢; have hkt := hti.le; unfold recP
    refine cseq ?_; intro K15 hK15
    refine creg ?_
    refine y (ev_lss rfl rfl) rfl ?_
    refine ynil' (kthn (hK15 _ _ ?_))
    clear hK15
    refine cseq ?_; intro K16 hK16
    refine ccond rfl (fun h47 => ?_) (fun h47 => ?_)
    ·(try simp only [sH] at h47)
     refine cskip' (kthn (hK16 _ _ ?_))
     clear hK16
     refine cseq ?_; intro K17 hK17
     refine cblock ?_
     refine cseq ?_; intro K18 hK18
     refine creg ?_
     refine ymv ?_
     refine ycallP (cTake (bs := bb) ?hb49 ?hz49) rfl Tryz.call98 ztk rfl ?_ ?_
     case hb49 => exact hb2.mono zge
     case hz49 => first | decide | omega
     ·rintro L' ⟨hlt53, rfl⟩
      refine kthp (kbpp (kthp (kthp (kbpp (kthp ?_)))))
      refine kpan (L1 := [sc p _ 155] ++ R) zge ?_
      obtain rfl : bb = [] := List.eq_nil_of_length_eq_zero (by omega)
      exact ⟨_, ⟨recD_texts ht4 hnd (by rw [← htx]; exact hti.bad0 (by omega)), _, rfl⟩, rfl⟩
     rintro v L' ⟨hle53, rfl, rfl⟩
     obtain ⟨x, rr, rfl⟩ : ∃ x r, bb = x :: r := by cases bb with | nil => exact absurd hle53 (by decide) | cons x r => exact ⟨x, r, rfl⟩
     have hv53 := rd1 hb2
     have hb3 := rdr1 hb2
     have hxl := x.toNat_lt
     refine y (ev_ixV hv53 rfl rfl Tryz.underlying22 Tryz.sizeOf5 (by decide) (by decide)) rfl ?_
     refine y (ev_loadV 0 hv53 zge rfl Tryz.isAgg5 rfl rfl) rfl ?_
     refine y (ev_conv rfl Tryz.underlying5 Tryz.underlying3) rfl ?_
     rw [wr (by omega) (by omega)]
     refine yas ?_
     refine ynil' (kthn (hK18 _ _ ?_))
     clear hK18
     refine cseq ?_; intro K19 hK19
     refine cseq ?_; intro K20 hK20
     refine creg ?_
     refine ymv ?_
     refine y (ev_gtr rfl rfl) rfl ?_
     refine ynil' (kthn (hK20 _ _ ?_))
     clear hK20
     refine ccond rfl (fun h56 => ?_) (fun h56 => ?_)
     ·(try simp only [sH] at h56)
      refine creg ?_
      refine y (ev_build (zs := _) rfl Tryz.underlying152 Tryz.zeroValue152 rfl .nil trivial (by dsimp [fillL, splice, vcells] <;> rfl)) rfl ?_
      refine y (ev_iface rfl (by kernel_rfl)) rfl ?_
      refine ypanic rfl ?_
      refine kthp (kbpp (kthp (kthp (kbpp (kthp ?_)))))
      refine kpan (L1 := [sc p _ 155] ++ R) zge ?_
      exact ⟨_, ⟨recD_texts ht4 hnd (by rw [← htx]; exact hti.bad (by omega) (by omega)), _, rfl⟩, rfl⟩
     ·(try simp only [sH] at h56)
      refine cskip' (kthn (hK19 _ _ ?_))
      clear hK19
      refine cdrawP 9 [(0, true), (1, true), (2, true), (3, true), (4, false), (5, true), (6, false), (7, false), (8, true)] ([sc b4 _ 126] ++ R) _ (fun c a w h1 h2 => ⟨h1, h2⟩) Tryz.mixed (by kernel_rfl) zge ?_
      refine hr rfl (ev_fieldAddr 2 rfl Tryz.underlying126 rfl Tryz.sizeOf98) rfl ?_
      refine hr rfl (ev_load rfl Tryz.isAgg98 zin rfl) rfl ?_
      refine hr rfl (ev_move rfl) rfl ?_
      refine hr rfl (ev_move rfl) rfl ?_
      refine hcallP rfl (cTake (bs := rr) ?hb64 ?hz64) rfl Tryz.call98 ztk rfl ?_ ?_
      case hb64 => exact hb3.mono zge
      case hz64 => first | decide | omega
      ·rintro L' ⟨hlt65, rfl⟩ w hh
       exact .inr ⟨_, rfl, ⟨by first | exact recD_nums ht4 (by rw [← hnm]; exact hni.bad (by omega) (by assumption)) | exact recD_texts ht4 hnd (by rw [← htx]; exact hti.bad (by omega) (by omega)), _, rfl⟩, (show Ge _ (_ ++ R) from zge).has hh⟩
      rintro v L' ⟨hle65, rfl, rfl⟩; refine ⟨zge, ?_⟩
      have hle : x.toNat ≤ rr.length := by omega
      have hb4 := hb3.take hle
      have hb5 := hb3.drop hle
      refine hr rfl (ev_toStrB hb4.rd.bytes zge rfl Tryz.underlying22 Tryz.underlying9 Tryz.underlying5) rfl ?_
      refine ha rfl (ac_bsliceR rfl Tryz.underlying98 Tryz.sizeOf9 Tryz.zeroValue9 rfl rfl rfl rfl ⟨⟨_, _, rfl, (by first | rfl | simp), (by first | decide | simp)⟩, trivial⟩ (by dsimp [fillL, splice, vcells, reps] <;> rfl)) rfl ?_
      rintro v L' ⟨b67, rfl, rfl⟩; refine ⟨zge, ?_⟩
      refine ha rfl (ac_append (s := st) (xs := strsV ts) (m := z) (k := 1) (us := [.string ⟨(rr.take x.toNat).toArray⟩]) (size := 1) rfl rfl (by repeat first | exact .z | apply Pk.s) Tryz.underlying98 Tryz.underlying98 (by intro q hq; cases hq) Tryz.typeInfo9 rfl rfl rfl ?ok67 ?src67 ?one67 ?big67) rfl ?_
      case ok67 => exact okt
      case src67 => exact src_at zin rfl rfl
      case one67 => simp [Value.oneCell']
      case big67 => show (z + 1) * 17 ≤ _; omega
      rintro v L' ⟨s68, rfl, ok68, rfl⟩; refine ⟨zge, ?_⟩
      rw [strsV_snoc] at ok68 ⊢
      refine hr rfl (ev_fieldAddr 2 rfl Tryz.underlying126 rfl Tryz.sizeOf98) rfl ?_
      refine hnil ?_
      refine ya0 (ac_store rfl rfl (by first | rfl | exact svVal_one _ _ | assumption) Tryz.sizeOf98 zrp rfl rfl) ?_
      rintro v L' ⟨rfl, rfl⟩
      have hti2 := hti.step (by omega) (by omega) hle
      refine hwP (kbn (kthn (hK17 _ _ ?_)))
      clear hK17
      refine creg ?_
      refine y (ev_add rfl rfl) rfl ?_
      rw [show IntKind.i64.wrap ((z:Int) + 1) = ((z+1 : Nat) : Int) by rw [wr (by omega) (by omega)]; rfl]
      refine ymv ?_
      refine ynil' (kthn ?_)
      exact hL2 (z + 1, s68, ts ++ [rr.take x.toNat], _, rr.drop x.toNat) ⟨ok68, hb5, hti2⟩ (by dsimp only; omega) _ _ zsub zge
    ·(try simp only [sH] at h47)
     refine cexit (kthx (kthx (kbx (kthn ?_))))
     exact ksub zsub zge (hJ2 ⟨z, st, ts, vv, bb⟩ ⟨hI2o, by dsimp only; omega⟩)
   clear hK8
   refine cblock ?_
   refine cloop (A := Nat × Sv × List Int × Value × Bytes) (fun x => [(39, i64 x.1), (38, i64 nm), (6, i64 tx), (4, ptr b4), (2, ptr b2), (0, ptr p)]) (fun x => [rdrP p x.2.2.2.1, recP b4 k0.toNat x.2.1 x.1 none 0, svSeg x.2.1 2 (intsV x.2.2.1), sc b2 [i64 0, nilS, nilS] 126] ++ R) (fun x => svOk x.2.1 x.1 1 (intsV x.2.2.1) ∧ RdY R x.2.2.2.1 x.2.2.2.2 ∧ NumsI r nm x.1 x.2.2.1 x.2.2.2.2) (fun x => nm - x.1) ((0, none, [], vSl v 2 (k0 :: h0 :: r).length 1, r)) ?_ zsub zge ?_
   · exact ⟨⟨rfl, rfl⟩, hb1, .zero r nm⟩
   rintro ⟨k, sn, ns, v1, b1⟩ hI1 KL1 hL1
   have hI1o := hI1
   obtain ⟨okn, hb1, hni⟩ := hI1; dsimp only at okn hb1 hni ⊢; have hkn := hni.le; unfold recP
   refine cseq ?_; intro K21 hK21
   refine creg ?_
   refine y (ev_lss rfl rfl) rfl ?_
   refine ynil' (kthn (hK21 _ _ ?_))
   clear hK21
   refine cseq ?_; intro K22 hK22
   refine ccond rfl (fun h73 => ?_) (fun h73 => ?_)
   ·(try simp only [sH] at h73)
    refine cskip' (kthn (hK22 _ _ ?_))
    clear hK22
    refine cseq ?_; intro K23 hK23
    refine cblock ?_
    refine cdrawP 7 [(0, true), (1, true), (2, true), (3, false), (4, false), (5, false), (6, true)] ([sc b4 _ 126] ++ R) _ (fun c a w h1 h2 => ⟨h1, h2⟩) Tryz.mixed (by kernel_rfl) zge ?_
    refine hr rfl (ev_fieldAddr 1 rfl Tryz.underlying126 rfl Tryz.sizeOf56) rfl ?_
    refine hr rfl (ev_load rfl Tryz.isAgg56 zin rfl) rfl ?_
    refine hr rfl (ev_move rfl) rfl ?_
    refine hcallP rfl (cNumber (bs := b1) (R0 := R) ?hg77 ?hb77) rfl Tryz.call99 ztk rfl ?_ ?_
    case hg77 => exact zge
    case hb77 => exact hb1
    ·rintro L' ⟨hn44, v44, rfl⟩ w hh
     exact .inr ⟨_, rfl, ⟨by first | exact recD_nums ht4 (by rw [← hnm]; exact hni.bad (by omega) (by assumption)) | exact recD_texts ht4 hnd (by rw [← htx]; exact hti.bad (by omega) (by omega)), _, rfl⟩, (show Ge _ (_ ++ R) from zge).has hh⟩
    rintro v L' ⟨q44, v44, hn44, hb44, rfl, rfl⟩; refine ⟨zge, ?_⟩
    refine ha rfl (ac_bsliceR rfl Tryz.underlying56 Tryz.sizeOf2 Tryz.zeroValue2 rfl rfl rfl rfl ⟨⟨_, _, rfl, (by first | rfl | simp), (by first | decide | simp)⟩, trivial⟩ (by dsimp [fillL, splice, vcells, reps] <;> rfl)) rfl ?_
    rintro v L' ⟨b45, rfl, rfl⟩; refine ⟨zge, ?_⟩
    refine ha rfl (ac_append (s := sn) (xs := intsV ns) (m := k) (k := 1) (us := [i64 (zag q44.1)]) (size := 1) rfl rfl (by repeat first | exact .z | apply Pk.s) Tryz.underlying56 Tryz.underlying56 (by intro q hq; cases hq) Tryz.typeInfo2 rfl rfl rfl ?ok79 ?src79 ?one79 ?big79) rfl ?_
    case ok79 => exact okn
    case src79 => exact src_at zin rfl rfl
    case one79 => simp [Value.oneCell']
    case big79 => show (k + 1) * 9 ≤ _; omega
    rintro v L' ⟨s46, rfl, ok46, rfl⟩; refine ⟨zge, ?_⟩
    rw [intsV_snoc] at ok46 ⊢
    refine hr rfl (ev_fieldAddr 1 rfl Tryz.underlying126 rfl Tryz.sizeOf56) rfl ?_
    refine hnil ?_
    refine ya0 (ac_store rfl rfl (by first | rfl | exact svVal_one _ _ | assumption) Tryz.sizeOf56 zrp rfl rfl) ?_
    rintro v L' ⟨rfl, rfl⟩
    have hni2 := hni.step (by omega) hn44
    refine hwP (kbn (kthn (hK23 _ _ ?_)))
    clear hK23
    refine creg ?_
    refine y (ev_add rfl rfl) rfl ?_
    rw [show IntKind.i64.wrap ((k:Int) + 1) = ((k+1 : Nat) : Int) by rw [wr (by omega) (by omega)]; rfl]
    refine ymv ?_
    refine ynil' (kthn ?_)
    exact hL1 (k + 1, s46, ns ++ [zag q44.1], v44, q44.2) ⟨ok46, hb44, hni2⟩ (by dsimp only; omega) _ _ zsub zge
   ·(try simp only [sH] at h73)
    refine cexit (kthx (kthx (kbx (kthn ?_))))
    exact ksub zsub zge (hJ1 ⟨k, sn, ns, v1, b1⟩ ⟨hI1o, by dsimp only; omega⟩)
 clear hK5
 refine cseq ?_; intro K24 hK24
 refine creg ?_
 refine ymv ?_
 refine y (ev_ixV hv9 rfl rfl Tryz.underlying22 Tryz.sizeOf5 (by decide) (by decide)) rfl ?_
 refine y (ev_loadV 1 hv9 zge rfl Tryz.isAgg5 rfl rfl) rfl ?_
 refine y (ev_geq rfl rfl) rfl ?_
 refine ynil' (kthn (hK24 _ _ ?_))
 clear hK24
 refine ccond rfl (fun h88 => ?_) (fun h88 => ?_)
 ·(try simp only [sH] at h88)
  refine cdrawP 6 [(0, true), (1, true), (2, true), (3, true), (4, true), (5, true)] (_) _ (fun c a w h1 h2 => ⟨h1, h2⟩) Tryz.mixed (by kernel_rfl) .refl ?_
  refine hr rfl (ev_move rfl) rfl ?_
  refine hr rfl (ev_ixV hv9 rfl rfl Tryz.underlying22 Tryz.sizeOf5 (by decide) (by decide)) rfl ?_
  refine hr rfl (ev_loadV 1 hv9 zge rfl Tryz.isAgg5 rfl rfl) rfl ?_
  refine hr rfl (ev_sub rfl rfl) rfl ?_
  rw [wu8, show ((h0.toNat : Int) - 240) % 256 = ((h0.toNat - 240 : Nat) : Int) by omega]
  refine hr rfl (ev_conv rfl Tryz.underlying5 Tryz.underlying3) rfl ?_
  rw [wr (by omega) (by omega)]
  refine hr rfl (ev_assign rfl) rfl ?_
  rw [show Value.int .i64 16 = i64 ((16 : Nat) : Int) from rfl]
  refine hnil ?_
  refine yas ?_
  refine hwP (kthn ?_)
  first
    | (exfalso; omega; done)
    | exact ksub zsub zge (hJr6 (_, _) (⟨by dsimp only; unfold headN; first | (rw [if_pos (by omega)]; done) | (rw [if_neg (by omega)]; done), by dsimp only; unfold headT; first | (rw [if_pos (by omega)]; done) | (rw [if_neg (by omega)]; done)⟩))
 ·(try simp only [sH] at h88)
  refine cskip' (kthn ?_)
  first
    | (exfalso; omega; done)
    | exact ksub zsub zge (hJr6 (_, _) (⟨by dsimp only; unfold headN; first | (rw [if_pos (by omega)]; done) | (rw [if_neg (by omega)]; done), by dsimp only; unfold headT; first | (rw [if_pos (by omega)]; done) | (rw [if_neg (by omega)]; done)⟩))
end W
end Go.Proofs
