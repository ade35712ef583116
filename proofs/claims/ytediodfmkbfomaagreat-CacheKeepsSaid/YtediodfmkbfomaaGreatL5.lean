/- A part of the proof: contracts and plain lemmas, each without conditions beyond those that it names. -/
import Derived.Test.YtediodfmkbfomaaGreatL4
set_option linter.unusedVariables false
set_option linter.unusedSimpArgs false
set_option linter.constructorNameAsVariable false
namespace Go.Proofs
open Go Go.Sl
namespace W
set_option linter.unusedVariables false
theorem lScan [Env] {R : List Seg} {l c : Nat} {q : Q3} {sl : Sv} {L : LogM} {D : Dev} (hD : D.ok) (hd : D.dead = false) (hs : itOk sl L) (hl0 : L.l = []) (hn2 : 2 ≤ L.n) (hff : 0 ≤ L.first ∧ L.first + L.n ≤ D.l.length) (hhd : 1 ≤ L.head ∧ L.head ≤ 4611686018427387904) :
   Con Tryz.prog 64 [ptr l] [logP l c q sl L, itS sl L, dev q D] R
     (fun u L' => ∃ sl' Z, u = .tuple #[] ∧ Z = { L with l := scanL D L.first L.n L.time L.n L.head L.least } ∧ itOk sl' Z ∧ L' = [logP l c q sl' Z, itS sl' Z, dev q D]) := by
 have hD5 := hD.n
 refine con_enter Tryz.func64 Tryz.ntmps64 rfl rfl ?_
 refine cscope ?_
 refine cseq ?_; intro K1 hK1
 refine creg ?_
 refine ymv ?_
 refine yni ?_
 refine y (ev_fieldAddr 6 rfl Tryz.underlying124 rfl Tryz.sizeOf2) rfl ?_
 refine y (ev_load rfl Tryz.isAgg2 zin rfl) rfl ?_
 refine yas ?_
 refine ynil' (kthn (hK1 _ _ ?_))
 clear hK1
 refine cseq ?_; intro K2 hK2
 refine clabel (kthn (hK2 _ _ ?_))
 clear hK2
 refine cseq ?_; intro K3 hK3
 refine creg ?_
 refine ymv ?_
 refine yni ?_
 refine y (ev_fieldAddr 2 rfl Tryz.underlying124 rfl Tryz.sizeOf3) rfl ?_
 refine y (ev_load rfl Tryz.isAgg3 zin rfl) rfl ?_
 refine ymv ?_
 refine ynil' (kthn (hK3 _ _ ?_))
 clear hK3
 refine cblock ?_
 refine cloop (A := Nat × Sv × LogM × Int) (fun x => [(15, i64 x.1), (14, i64 L.n), (2, i64 x.2.2.2), (0, ptr l)]) (fun x => [logP l c q x.2.1 x.2.2.1, itS x.2.1 x.2.2.1, dev q D] ++ R) (fun x => x.1 ≤ L.n ∧ itOk x.2.1 x.2.2.1 ∧ x.2.2.1 = { L with l := x.2.2.1.l } ∧ x.2.2.1.l.length = x.1 ∧ scanL D L.first L.n L.time L.n L.head L.least = x.2.2.1.l ++ scanL D L.first L.n L.time (L.n - x.1) (L.head + x.1) x.2.2.2) (fun x => L.n - x.1) ((0, sl, L, L.least)) ?_ zsub zge ?_
 · refine ⟨Nat.zero_le _, hs, rfl, by rw [hl0]; rfl, ?_⟩; dsimp only; rw [hl0, List.nil_append, Nat.sub_zero]; simp
 rintro ⟨k, s, Z, lo⟩ hI1 KL1 hL1
 obtain ⟨hk, ok, hZ, hlen, hsc⟩ := hI1; dsimp only at hk ok hZ hlen hsc ⊢
 refine cseq ?_; intro K4 hK4
 refine creg ?_
 refine y (ev_lss rfl rfl) rfl ?_
 refine ynil' (kthn (hK4 _ _ ?_))
 clear hK4
 refine cseq ?_; intro K5 hK5
 refine ccond rfl (fun h12 => ?_) (fun h12 => ?_)
 ·(try simp only [sH] at h12)
  have z1 : Z.first = L.first := by rw [hZ]
  have z2 : Z.n = L.n := by rw [hZ]
  have z3 : Z.head = L.head := by rw [hZ]
  have z4 : Z.time = L.time := by rw [hZ]
  have z5 : Z.tail = L.head + k := by unfold LogM.tail; rw [z3, hlen]
  have hkn : k < L.n := by omega
  have hpl : Z.place Z.tail = L.first + (L.head + k) % L.n := by unfold LogM.place; rw [z1, z2, z5]
  have hm := Int.emod_nonneg (L.head + k) (show (L.n : Int) ≠ 0 by omega)
  have hm2 := Int.emod_lt_of_pos (L.head + k) (show (0 : Int) < L.n by omega)
  have hh0 : D.has (Z.place Z.tail) = 0 := by unfold Dev.has; rw [if_neg (by rw [hd]; decide), if_neg (by omega)]
  have hsl : (D.sec (Z.place Z.tail)).length = 144 := sec_length hD _
  obtain ⟨f, hf⟩ : ∃ f, L.n - k = f + 1 := ⟨L.n - k - 1, by omega⟩
  refine cskip' (kthn (hK5 _ _ ?_))
  clear hK5
  refine cseq ?_; intro K6 hK6
  refine cblock ?_
  refine cseq ?_; intro K7 hK7
  refine cdraw 13 [(0, true), (1, true), (2, true), (3, true), (4, true), (5, true), (6, false), (7, false), (8, false), (9, true), (10, true), (11, true), (12, true)] (_) Tryz.mixed (by kernel_rfl) .refl ?_
  refine hr rfl (ev_move rfl) rfl ?_
  refine hr rfl (ev_nil rfl) rfl ?_
  refine hr rfl (ev_fieldAddr 0 rfl Tryz.underlying124 rfl Tryz.sizeOf25) rfl ?_
  refine hr rfl (ev_load rfl Tryz.isAgg25 zin rfl) rfl ?_
  refine hr rfl (ev_move rfl) rfl ?_
  refine hr rfl (ev_move rfl) rfl ?_
  refine hcall rfl (lTail ?qz19 ?qa19 ?qb19 ?qc19) rfl Tryz.call56 ztk rfl ?_
  case qz19 => exact ok
  case qa19 => omega
  case qb19 => omega
  case qc19 => omega
  rintro v L' ⟨rfl, rfl⟩; refine ⟨zge, ?_⟩
  refine hcall rfl (lPlace ?pa20 ?pb20 ?pc20 ?pd20 ?pe20 ?pf20) rfl Tryz.call75 ztk rfl ?_
  case pa20 => omega
  case pb20 => omega
  case pc20 => omega
  case pd20 => omega
  case pe20 => omega
  case pf20 => omega
  rintro v L' ⟨rfl, rfl⟩; refine ⟨zge, ?_⟩
  refine hcall rfl (secReadS hD hh0) rfl Tryz.call79 ztk rfl ?_
  rintro v L' ⟨s26, rfl, ok26, rfl⟩; refine ⟨zge, ?_⟩
  rw [hpl] at ok26 hsl ⊢
  generalize hb0 : D.sec (L.first + (L.head + (k : Int)) % L.n) = b at *
  refine hr rfl (ev_move rfl) rfl ?_
  refine hr rfl (ev_extract rfl rfl) rfl ?_
  refine hr rfl (ev_extract rfl rfl) rfl ?_
  refine hr rfl (ev_assign rfl) rfl ?_
  refine hnil ?_
  refine yas ?_
  refine hnoP' (kthn (hK7 _ _ ?_))
  clear hK7
  refine cseq ?_; intro K8 hK8
  refine creg ?_
  refine ymv ?_
  refine ycall (lRead (bs := b) ?hb28 ?five28 ?len28) rfl Tryz.call83 ztk rfl ?_
  case hb28 => exact rdY_sv zin ok26
  case five28 => omega
  case len28 => omega
  rintro v L' ⟨rc31, sn31, st31, rfl, ok31, hrc31, rfl⟩
  have okn := ok31.n
  have okt := ok31.t
  unfold recV
  have hvt : RdV [svSeg st31 9 (strsV rc31.texts)] (svVal st31 rc31.texts.length) rc31.texts.length (strsV rc31.texts) := rdV_sv .z okt
  have hvn : RdV [svSeg sn31 2 (intsV rc31.nums)] (svVal sn31 rc31.nums.length) rc31.nums.length (intsV rc31.nums) := rdV_sv .z okn
  refine ymv ?_
  refine yxt ?_
  refine yxt ?_
  refine ya (ac_alloc Tryz.zeroValue126 rfl) rfl ?_
  rintro v L' ⟨b5, rfl, rfl⟩
  refine ya0 (ac_storeAll rfl rfl (by first | exact bytesV_one _ | (simp [Value.oneCell']; done) | (simp only [List.forall_mem_cons, List.not_mem_nil, false_implies, implies_true, svVal_one, and_true, true_and, and_self]; first | done | simp [Value.oneCell'])) Tryz.sizeOf126 zrp (by first | rfl | assumption | (simp [*]; done) | (simp [*]; omega)) (by first | rfl | assumption | (simp [*]; done) | (simp [*]; omega))) ?_
  rintro v L' ⟨rfl, rfl⟩
  refine yas ?_
  refine ynil' (kthn (hK8 _ _ ?_))
  clear hK8
  refine cseq ?_; intro K9 hK9
  refine cblock ?_
  refine cseq ?_; intro K10 hK10
  refine cdraw 21 [(0, true), (1, true), (2, true), (3, true), (4, true), (5, true), (6, true), (7, true), (8, false), (9, true), (10, true), (11, true), (12, true), (13, true), (14, true), (15, true), (16, true), (17, true), (18, true), (19, true), (20, true)] (_) Tryz.mixed (by kernel_rfl) .refl ?_
  refine hr rfl (ev_move rfl) rfl ?_
  refine hr rfl (ev_not rfl) rfl ?_
  refine hr rfl (ev_move rfl) rfl ?_
  refine hsplit 37 rfl (fun h38 => ?_) (fun h38 => ?_)
  ·(try simp only [sH] at h38)
   have hfin : Z = { L with l := scanL D L.first L.n L.time L.n L.head L.least } := by
     rw [hsc, scan_no (by rw [hb0]; exact readL_none (by simpa using h38)), List.append_nil]; exact hZ
   refine hr0 rfl rfl rfl rfl rfl ?_
   refine hr0 rfl rfl rfl rfl rfl ?_
   refine hr0 rfl rfl rfl rfl rfl ?_
   refine hr0 rfl rfl rfl rfl rfl ?_
   refine hr0 rfl rfl rfl rfl rfl ?_
   refine ha0 rfl rfl rfl rfl rfl zge ?_
   refine hr0 rfl rfl rfl rfl rfl ?_
   refine hr rfl (ev_pick1 rfl rfl) rfl ?_
   refine hr rfl (ev_move rfl) rfl ?_
   refine hr0 rfl rfl rfl rfl rfl ?_
   refine hr0 rfl rfl rfl rfl rfl ?_
   refine hr0 rfl rfl rfl rfl rfl ?_
   refine hr0 rfl rfl rfl rfl rfl ?_
   refine hr0 rfl rfl rfl rfl rfl ?_
   refine hr0 rfl rfl rfl rfl rfl ?_
   refine hr0 rfl rfl rfl rfl rfl ?_
   refine hr0 rfl rfl rfl rfl rfl ?_
   refine hr0 rfl rfl rfl rfl rfl ?_
   refine hnil ?_
   refine ygz ?_
   refine ygz ?_
   refine ypa ?_
   refine yas ?_
   refine hnoP' (kthn (hK10 _ _ ?_))
   clear hK10
   refine ccond1 rfl ?_
   refine cexit (kbp rfl (kthx (kbp rfl (kthx (kthx (kbx (kg rfl ?_)))))))
   first
     | (exfalso; omega; done)
     | (refine kendv0 Tryz.results64 (L1 := [logP l c q s Z, itS s Z, dev q D] ++ R) zge ?_
        exact ⟨_, ⟨s, Z, rfl, hfin, ok, rfl⟩, rfl⟩)
  ·(try simp only [sH] at h38)
   have hkok : okL' b = true := by simpa using h38
   obtain ⟨hg1, hg2⟩ := okL_good hkok
   have hrl := readL_some hkok
   rw [hrc31 hkok] at hg1 hg2 hrl
   rw [← hb0] at hrl
   have hx0 : rc31.nums[0]? = some (rc31.nums.getD 0 0) := getd_get (by omega)
   have hx1 : rc31.nums[1]? = some (rc31.nums.getD 1 0) := getd_get (by omega)
   have hxt : rc31.texts[0]? = some (rc31.texts.getD 0 []) := getd_get (by omega)
   generalize rc31.nums.getD 0 0 = y0 at *
   generalize rc31.nums.getD 1 0 = y1 at *
   generalize rc31.texts.getD 0 [] = yt at *
   refine hr1 rfl rfl rfl (ev_fieldAddr 1 rfl Tryz.underlying126 rfl Tryz.sizeOf56) rfl ?_
   refine hr1 rfl rfl rfl (ev_load rfl Tryz.isAgg56 zin rfl) rfl ?_
   refine hr1 rfl rfl rfl (ev_ixV hvn rfl rfl Tryz.underlying56 Tryz.sizeOf2 (by omega) (by omega)) rfl ?_
   refine hr1 rfl rfl rfl (ev_loadV 0 hvn zge rfl Tryz.isAgg2 rfl (intsV_get hx0)) rfl ?_
   refine hr1 rfl rfl rfl (ev_move rfl) rfl ?_
   refine hcall1 rfl rfl rfl (lTail ?qz48 ?qa48 ?qb48 ?qc48) rfl Tryz.call56 ztk rfl ?_
   case qz48 => exact ok
   case qa48 => omega
   case qb48 => omega
   case qc48 => omega
   rintro v L' ⟨rfl, rfl⟩; refine ⟨zge, ?_⟩
   refine hr1 rfl rfl rfl (ev_neq rfl rfl) rfl ?_
   refine hr rfl (ev_pick0 rfl rfl) rfl ?_
   refine hr rfl (ev_move rfl) rfl ?_
   refine hsplit 46 rfl (fun h52 => ?_) (fun h52 => ?_)
   ·(try simp only [sH] at h52)
    have hfin : Z = { L with l := scanL D L.first L.n L.time L.n L.head L.least } := by
      rw [hsc, scan_bad hrl (by omega), List.append_nil]; exact hZ
    refine hr0 rfl rfl rfl rfl rfl ?_
    refine hr0 rfl rfl rfl rfl rfl ?_
    refine hr0 rfl rfl rfl rfl rfl ?_
    refine hr0 rfl rfl rfl rfl rfl ?_
    refine hr0 rfl rfl rfl rfl rfl ?_
    refine hr0 rfl rfl rfl rfl rfl ?_
    refine hr0 rfl rfl rfl rfl rfl ?_
    refine hr0 rfl rfl rfl rfl rfl ?_
    refine hr0 rfl rfl rfl rfl rfl ?_
    refine hnil ?_
    refine ygz ?_
    refine ygz ?_
    refine ypa ?_
    refine yas ?_
    refine hnoP' (kthn (hK10 _ _ ?_))
    clear hK10
    refine ccond1 rfl ?_
    refine cexit (kbp rfl (kthx (kbp rfl (kthx (kthx (kbx (kg rfl ?_)))))))
    first
      | (exfalso; omega; done)
      | (refine kendv0 Tryz.results64 (L1 := [logP l c q s Z, itS s Z, dev q D] ++ R) zge ?_
         exact ⟨_, ⟨s, Z, rfl, hfin, ok, rfl⟩, rfl⟩)
   ·(try simp only [sH] at h52)
    refine hr1 rfl rfl rfl (ev_fieldAddr 1 rfl Tryz.underlying126 rfl Tryz.sizeOf56) rfl ?_
    refine hr1 rfl rfl rfl (ev_load rfl Tryz.isAgg56 zin rfl) rfl ?_
    refine hr1 rfl rfl rfl (ev_ixV hvn rfl rfl Tryz.underlying56 Tryz.sizeOf2 (by omega) (by omega)) rfl ?_
    refine hr1 rfl rfl rfl (ev_loadV 1 hvn zge rfl Tryz.isAgg2 (by simp) (intsV_get hx1)) rfl ?_
    refine hr1 rfl rfl rfl (ev_move rfl) rfl ?_
    refine hr1 rfl rfl rfl (ev_move rfl) rfl ?_
    refine hr1 rfl rfl rfl (ev_nil rfl) rfl ?_
    refine hr1 rfl rfl rfl (ev_fieldAddr 5 rfl Tryz.underlying124 rfl Tryz.sizeOf2) rfl ?_
    refine hr1 rfl rfl rfl (ev_load rfl Tryz.isAgg2 zin rfl) rfl ?_
    refine hnil ?_
    refine ygo ?_
    refine ycall (lWithin) rfl Tryz.call63 ztk rfl ?_
    rintro v L' ⟨rfl, rfl⟩
    refine ygo ?_
    refine y (ev_not rfl) rfl ?_
    refine ypb ?_
    refine yas ?_
    refine hnoP' (kthn (hK10 _ _ ?_))
    clear hK10
    refine ccond rfl (fun h68 => ?_) (fun h68 => ?_)
    ·(try simp only [sH] at h68)
     have hfin : Z = { L with l := scanL D L.first L.n L.time L.n L.head L.least } := by
       rw [hsc, scan_bad hrl (by intro hc; have hwt : within3 y1 lo Z.time = true := within3_iff.2 ⟨hc.2.1, by omega⟩; rw [hwt] at h68; exact Bool.noConfusion h68), List.append_nil]; exact hZ
     refine cexit (kbp rfl (kthx (kbp rfl (kthx (kthx (kbx (kg rfl ?_)))))))
     first
       | (exfalso; omega; done)
       | (refine kendv0 Tryz.results64 (L1 := [logP l c q s Z, itS s Z, dev q D] ++ R) zge ?_
          exact ⟨_, ⟨s, Z, rfl, hfin, ok, rfl⟩, rfl⟩)
    ·(try simp only [sH] at h68)
     obtain ⟨hw1, hw2⟩ := within3_iff.1 (show within3 y1 lo Z.time = true by simpa using h68)
     have hgo := scan_go (time := L.time) (f := f) hrl (by omega) hw1 (by omega)
     rw [hf, hgo] at hsc
     refine cskip' (kbn (kthn (hK9 _ _ ?_)))
     clear hK9
     refine cseq ?_; intro K11 hK11
     refine creg ?_
     refine y (ev_fieldAddr 1 rfl Tryz.underlying126 rfl Tryz.sizeOf56) rfl ?_
     refine y (ev_load rfl Tryz.isAgg56 zin rfl) rfl ?_
     refine y (ev_ixV hvn rfl rfl Tryz.underlying56 Tryz.sizeOf2 (by omega) (by omega)) rfl ?_
     refine y (ev_loadV 1 hvn zge rfl Tryz.isAgg2 (by simp) (intsV_get hx1)) rfl ?_
     refine yas ?_
     refine ynil' (kthn (hK11 _ _ ?_))
     clear hK11
     refine cdraw 15 [(0, true), (1, true), (2, true), (3, true), (4, true), (5, true), (6, true), (7, true), (8, true), (9, true), (10, true), (11, false), (12, false), (13, true), (14, true)] ([logP l c q s Z, svSeg st31 9 (strsV rc31.texts), sc b5 [i64 rc31.kind, svVal sn31 rc31.nums.length, svVal st31 rc31.texts.length] 126] ++ R) Tryz.mixed (by kernel_rfl) zge ?_
     refine hr rfl (ev_move rfl) rfl ?_
     refine hr rfl (ev_move rfl) rfl ?_
     refine hr rfl (ev_nil rfl) rfl ?_
     refine hr rfl (ev_fieldAddr 7 rfl Tryz.underlying124 rfl Tryz.sizeOf122) rfl ?_
     refine hr rfl (ev_load rfl Tryz.isAgg122 zin rfl) rfl ?_
     refine hr rfl (ev_fieldAddr 2 rfl Tryz.underlying126 rfl Tryz.sizeOf98) rfl ?_
     refine hr rfl (ev_load rfl Tryz.isAgg98 zin rfl) rfl ?_
     refine hr rfl (ev_ixV hvt rfl rfl Tryz.underlying98 Tryz.sizeOf9 (by omega) (by omega)) rfl ?_
     refine hr rfl (ev_loadV 0 hvt zge rfl Tryz.isAgg9 rfl (strsV_get hxt)) rfl ?_
     refine hr rfl (ev_move rfl) rfl ?_
     refine hr rfl (ev_build (zs := _) rfl Tryz.underlying132 Tryz.zeroValue132 rfl (.cons Tryz.sizeOf9 (.cons Tryz.sizeOf2 .nil)) ⟨⟨_, _, rfl, (by first | rfl | simp), (by first | decide | simp)⟩, ⟨⟨_, _, rfl, (by first | rfl | simp), (by first | decide | simp)⟩, trivial⟩⟩ (by dsimp [fillL, splice, vcells] <;> rfl)) rfl ?_
     refine ha rfl (ac_bsliceR rfl Tryz.underlying122 Tryz.sizeOf132 Tryz.zeroValue132 rfl rfl rfl rfl ⟨⟨_, _, rfl, (by first | rfl | simp), (by first | decide | simp)⟩, trivial⟩ (by dsimp [fillL, splice, vcells, reps] <;> rfl)) rfl ?_
     rintro v L' ⟨b74, rfl, rfl⟩; refine ⟨zge, ?_⟩
     refine ha rfl (ac_append (s := s) (xs := itemsV Z.l) (m := Z.l.length) (k := 1) (us := itemsV [(yt, y1)]) (size := 2) rfl rfl (by repeat first | exact .z | apply Pk.s) Tryz.underlying122 Tryz.underlying122 (by intro q hq; cases hq) Tryz.typeInfo132 rfl rfl rfl ?ok86 ?src86 ?one86 ?big86) rfl ?_
     case ok86 => exact ok
     case src86 => exact src_at zin rfl rfl
     case one86 => exact itemsV_one _
     case big86 => show (_ + _) * 25 ≤ _; omega
     rintro v L' ⟨s75, rfl, ok75, rfl⟩; refine ⟨zge, ?_⟩
     rw [← itemsV_app, show Z.l.length + 1 = (Z.l ++ [(yt, y1)]).length by simp] at ok75 ⊢
     refine hr rfl (ev_nil rfl) rfl ?_
     refine hr rfl (ev_fieldAddr 7 rfl Tryz.underlying124 rfl Tryz.sizeOf122) rfl ?_
     refine hnil ?_
     refine ya0 (ac_store rfl rfl (by first | rfl | exact svVal_one _ _ | assumption) Tryz.sizeOf122 zrp rfl rfl) ?_
     rintro v L' ⟨rfl, rfl⟩
     refine hnoP' (kbn (kthn (hK6 _ _ ?_)))
     clear hK6
     refine creg ?_
     refine y (ev_add rfl rfl) rfl ?_
     rw [show IntKind.i64.wrap ((k:Int) + 1) = ((k+1 : Nat) : Int) by rw [wr (by omega) (by omega)]; rfl]
     refine ymv ?_
     refine ynil' (kthn ?_)
     exact hL1 ((k + 1, s75, { Z with l := Z.l ++ [(yt, y1)] }, y1)) (⟨by dsimp only; omega, ok75, by dsimp only; rw [hZ], by simp; omega, by dsimp only; rw [hsc, List.append_assoc, List.singleton_append, show L.n - (k + 1) = f by omega, show (L.head + ((k + 1 : Nat) : Int)) = L.head + (k : Int) + 1 by omega]⟩) (by dsimp only; omega) _ _ zsub zge
 ·(try simp only [sH] at h12)
  have hkn : k = L.n := by omega
  subst hkn
  have hfin : Z = { L with l := scanL D L.first L.n L.time L.n L.head L.least } := by rw [hsc, Nat.sub_self]; simp only [scanL, List.append_nil]; exact hZ
  refine cexit (kthx (kthx (kbx (kg rfl ?_))))
  first
    | (exfalso; omega; done)
    | (refine kendv0 Tryz.results64 (L1 := [logP l c q s Z, itS s Z, dev q D] ++ R) zge ?_
       exact ⟨_, ⟨s, Z, rfl, hfin, ok, rfl⟩, rfl⟩)
end W
end Go.Proofs
