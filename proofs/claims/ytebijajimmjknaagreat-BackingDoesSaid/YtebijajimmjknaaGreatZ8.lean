/- A part of the proof: contracts and plain lemmas, each without conditions beyond those that it names. -/
import Derived.Test.YtebijajimmjknaaGreatZ7
set_option linter.unusedVariables false
set_option linter.unusedSimpArgs false
set_option linter.constructorNameAsVariable false
namespace Go.Proofs
open Go Go.Sl
namespace W
set_option linter.unusedVariables false
def KXB (D : Dev) (E : RDev) (f n : Int) (p la : Nat) : Value → List Seg → Prop := fun u L' =>
 (stoE D f n ≠ 0 ∧ u = .tuple #[nilP, i64 (stoE D f n)] ∧ L' = [rdev p la E]) ∨
 (stoE D f n = 0 ∧ ∃ s c b cap sp ps, ps.length = n.toNat ∧ u = .tuple #[ptr s, i64 0] ∧ L' = [rsP s c (bkV b n.toNat cap) (openS D f n.toNat), rsB b sp ps (openS D f n.toNat).bs, rcelP c p (openS D f n.toNat).tok, rcelsP ps p (openS D f n.toNat).cs, rdev p la E])
theorem rcOpenCz [Env] {R : List Seg} {p la : Nat} {D : Dev} {E : RDev} {f a b : Int} {z : Nat} (h : Rel D E) (hd : D.dead = false) (h0 : 0 ≤ f) (hz : f + 2 * z + 1 < D.l.length) (ha : a = f + 2 * z) (hb : b = f + 2 * z + 1) :
   Con Tryz.prog 44 [ptr p, i64 a, i64 b] [rdev p la E] R (fun u L' => ∃ c, u = .tuple #[ptr c, i64 0] ∧ L' = [rcelP c p (cz D f z), rdev p la E]) := by
 subst ha; subst hb
 have hE : openE D (f + 2 * z) (f + 2 * z + 1) = 0 := openE_ok (by omega) (by omega) (by omega) (by rw [hd]; decide)
 refine (rcOpen h.rok (rsec_144 h)).mono ?_
 rintro v L (⟨h1, _⟩ | ⟨_, c, rfl, rfl⟩)
 · exact absurd (by rw [← openER_rel h]; exact hE) h1
 · exact ⟨c, rfl, by unfold cz; rw [openCR_rel h hE]⟩
set_option maxHeartbeats 2000000 in
theorem xbOpen [Env] {R : List Seg} {p la : Nat} {D : Dev} {E : RDev} {f nb : Int} (hR : Rel D E) :
   Con Tryz.prog 30 [ptr p, i64 f, i64 nb] [rdev p la E] R (KXB D E f nb p la) := by
 have hn512 := hR.ok.n
 have hEl : E.l.length = D.l.length := hR.len
 refine con_enter Tryz.func30 Tryz.ntmps30 rfl rfl ?_
 refine cre (L' := [rP p la E, rL la E] ++ R) (by simp [rdev]) ?_; unfold rP; unfold KXB
 refine cseq ?_; intro K1 hK1
 refine creg ?_
 refine yas ?_
 refine yas ?_
 refine ynil' (kthn (hK1 _ _ ?_))
 clear hK1
 refine cseq ?_; intro K2 hK2
 refine cseq ?_; intro K3 hK3
 refine creg ?_
 refine ymv ?_
 skip
 ·skip
  refine y (ev_eqlPnil rfl rfl Tryz.underlying26) rfl ?_
  refine ymv ?_
  refine ygo ?_
  refine ymv ?_
  refine ygo ?_
  refine y (ev_lss rfl rfl) rfl ?_
  refine ypb ?_
  refine ymv ?_
  refine ysplit 26 rfl (fun h10 => ?_) (fun h10 => ?_)
  ·(try simp only [sH] at h10)
   refine ygz ?_
   refine ygz ?_
   refine ypa ?_
   refine ymv ?_
   refine ygz ?_
   refine ygz ?_
   refine ypa ?_
   refine ymv ?_
   refine ygz ?_
   refine ygz ?_
   refine ygz ?_
   refine ygz ?_
   refine ygz ?_
   refine ygz ?_
   refine ygz ?_
   refine ygz ?_
   refine ygz ?_
   refine ygz ?_
   refine ygz ?_
   refine ypa ?_
   refine ynil' (kthn (hK3 _ _ ?_))
   clear hK3
   refine ccond1 rfl ?_
   refine cseq ?_; intro K4 hK4
   refine creg ?_
   have hse : stoE D f nb = 1 := by unfold stoE; rw [if_pos (by omega)]
   refine yreP (L' := [rdev p la E] ++ R) (by simp [rdev, rP, hEl, hR.dead]) ?_
   refine yas ?_
   refine yas ?_
   refine ynil' (kthn (hK4 _ _ ?_))
   clear hK4
   refine cret (kthr ?_)
   first
     | (exfalso; omega; done)
     | (refine kretv2 Tryz.results30 rfl rfl (L1 := [rdev p la E] ++ R) zge ?_
        exact ⟨_, .inl ⟨by rw [hse]; decide, by rw [hse], rfl⟩, rfl⟩)
  ·(try simp only [sH] at h10)
   refine ygo ?_
   refine ymv ?_
   refine ygo ?_
   refine y (ev_gtr rfl rfl) rfl ?_
   refine ypb ?_
   refine ymv ?_
   refine ysplit 30 rfl (fun h22 => ?_) (fun h22 => ?_)
   ·(try simp only [sH] at h22)
    refine ygz ?_
    refine ygz ?_
    refine ypa ?_
    refine ymv ?_
    refine ygz ?_
    refine ygz ?_
    refine ygz ?_
    refine ygz ?_
    refine ygz ?_
    refine ygz ?_
    refine ygz ?_
    refine ygz ?_
    refine ygz ?_
    refine ygz ?_
    refine ygz ?_
    refine ypa ?_
    refine ynil' (kthn (hK3 _ _ ?_))
    clear hK3
    refine ccond1 rfl ?_
    refine cseq ?_; intro K5 hK5
    refine creg ?_
    have hse : stoE D f nb = 1 := by unfold stoE; rw [if_pos (by omega)]
    refine yreP (L' := [rdev p la E] ++ R) (by simp [rdev, rP, hEl, hR.dead]) ?_
    refine yas ?_
    refine yas ?_
    refine ynil' (kthn (hK5 _ _ ?_))
    clear hK5
    refine cret (kthr ?_)
    first
      | (exfalso; omega; done)
      | (refine kretv2 Tryz.results30 rfl rfl (L1 := [rdev p la E] ++ R) zge ?_
         exact ⟨_, .inl ⟨by rw [hse]; decide, by rw [hse], rfl⟩, rfl⟩)
   ·(try simp only [sH] at h22)
    refine ygo ?_
    refine ymv ?_
    refine ygo ?_
    refine y (ev_lss rfl rfl) rfl ?_
    refine ypb ?_
    refine ymv ?_
    refine ysplit 34 rfl (fun h32 => ?_) (fun h32 => ?_)
    ·(try simp only [sH] at h32)
     refine ygz ?_
     refine ygz ?_
     refine ygz ?_
     refine ygz ?_
     refine ygz ?_
     refine ygz ?_
     refine ygz ?_
     refine ygz ?_
     refine ygz ?_
     refine ygz ?_
     refine ygz ?_
     refine ypa ?_
     refine ynil' (kthn (hK3 _ _ ?_))
     clear hK3
     refine ccond1 rfl ?_
     refine cseq ?_; intro K6 hK6
     refine creg ?_
     have hse : stoE D f nb = 1 := by unfold stoE; rw [if_pos (by omega)]
     refine yreP (L' := [rdev p la E] ++ R) (by simp [rdev, rP, hEl, hR.dead]) ?_
     refine yas ?_
     refine yas ?_
     refine ynil' (kthn (hK6 _ _ ?_))
     clear hK6
     refine cret (kthr ?_)
     first
       | (exfalso; omega; done)
       | (refine kretv2 Tryz.results30 rfl rfl (L1 := [rdev p la E] ++ R) zge ?_
          exact ⟨_, .inl ⟨by rw [hse]; decide, by rw [hse], rfl⟩, rfl⟩)
    ·(try simp only [sH] at h32)
     refine ygo ?_
     refine ymv ?_
     refine ygo ?_
     refine ymv ?_
     refine ygo ?_
     refine yni ?_
     refine ygo ?_
     refine y (ev_fieldAddr 0 rfl Tryz.underlying86 rfl Tryz.sizeOf84) rfl ?_
     refine ygo ?_
     refine y (ev_load rfl Tryz.isAgg84 zin rfl) rfl ?_
     refine ygo ?_
     first
       | refine y (ev_len rfl Tryz.underlying84) rfl ?_
       | refine y (ev_lenSv rfl Tryz.underlying84 (by assumption)) rfl ?_
       | refine y (ev_lenV rfl Tryz.underlying84 (RdV.lenVal (by assumption))) rfl ?_
       | refine y (ev_lenV rfl Tryz.underlying84 (RdB.lenVal (by assumption))) rfl ?_
     refine ygo ?_
     refine y (ev_sub rfl rfl) rfl ?_
     rw [hEl, wr (by omega) (by omega)]
     refine ygo ?_
     refine ymv ?_
     refine ygo ?_
     refine y (ev_mul rfl rfl) rfl ?_
     rw [wr (by omega) (by omega)]
     refine ygo ?_
     refine y (ev_sub rfl rfl) rfl ?_
     rw [wr (by omega) (by omega)]
     refine ygo ?_
     refine y (ev_gtr rfl rfl) rfl ?_
     refine ypb ?_
     refine ynil' (kthn (hK3 _ _ ?_))
     clear hK3
     refine ccond rfl (fun h48 => ?_) (fun h48 => ?_)
     ·(try simp only [sH] at h48)
      refine cseq ?_; intro K7 hK7
      refine creg ?_
      have hse : stoE D f nb = 1 := by unfold stoE; rw [if_pos (by omega)]
      refine yreP (L' := [rdev p la E] ++ R) (by simp [rdev, rP, hEl, hR.dead]) ?_
      refine yas ?_
      refine yas ?_
      refine ynil' (kthn (hK7 _ _ ?_))
      clear hK7
      refine cret (kthr ?_)
      first
        | (exfalso; omega; done)
        | (refine kretv2 Tryz.results30 rfl rfl (L1 := [rdev p la E] ++ R) zge ?_
           exact ⟨_, .inl ⟨by rw [hse]; decide, by rw [hse], rfl⟩, rfl⟩)
     ·(try simp only [sH] at h48)
      refine cskip' (kthn (hK2 _ _ ?_))
      clear hK2
      refine cseq ?_; intro K8 hK8
      refine cseq ?_; intro K9 hK9
      refine creg ?_
      refine ymv ?_
      refine yni ?_
      refine y (ev_fieldAddr 1 rfl Tryz.underlying86 rfl Tryz.sizeOf4) rfl ?_
      refine y (ev_load rfl Tryz.isAgg4 zin rfl) rfl ?_
      rw [hR.dead]
      refine ynil' (kthn (hK9 _ _ ?_))
      clear hK9
      refine ccond rfl (fun h55 => ?_) (fun h55 => ?_)
      ·(try simp only [sH] at h55)
       have hse : stoE D f nb = 30 := by unfold stoE; rw [if_neg (by omega), if_pos h55]
       refine cseq ?_; intro K10 hK10
       refine creg ?_
       refine yreP (L' := [rdev p la E] ++ R) (by simp [rdev, rP, hEl, hR.dead]) ?_
       refine yas ?_
       refine yas ?_
       refine ynil' (kthn (hK10 _ _ ?_))
       clear hK10
       refine cret (kthr ?_)
       first
         | (exfalso; omega; done)
         | (refine kretv2 Tryz.results30 rfl rfl (L1 := [rdev p la E] ++ R) zge ?_
            exact ⟨_, .inl ⟨by rw [hse]; decide, by rw [hse], rfl⟩, rfl⟩)
      ·(try simp only [sH] at h55)
       have hd : D.dead = false := h55
       have hse : stoE D f nb = 0 := by unfold stoE; rw [if_neg (by omega), if_neg (by rw [h55]; decide)]
       refine cskip' (kthn (hK8 _ _ ?_))
       clear hK8
       refine cseq ?_; intro K11 hK11
       refine creg ?_
       refine yreP (L' := [rdev p la E] ++ R) (by simp [rdev, rP, hEl, hR.dead]) ?_
       obtain ⟨n, hnn⟩ : ∃ n : Nat, nb = n := ⟨nb.toNat, by omega⟩
       subst hnn
       refine y (ev_build (zs := _) rfl Tryz.underlying77 Tryz.zeroValue77 rfl (.cons Tryz.sizeOf52 (.cons Tryz.sizeOf2 (.cons Tryz.sizeOf75 (.cons Tryz.sizeOf35 .nil)))) trivial (by dsimp [fillL, splice, vcells] <;> rfl)) rfl ?_
       refine ya (ac_box rfl rfl) rfl ?_
       rintro v L' ⟨b52, rfl, rfl⟩
       refine yas ?_
       refine ynil' (kthn (hK11 _ _ ?_))
       clear hK11
       refine cseq ?_; intro K12 hK12
       refine creg ?_
       refine ymv ?_
       refine ymv ?_
       refine ymv ?_
       refine ymv ?_
       refine y (ev_add rfl rfl) rfl ?_
       rw [wr (by omega) (by omega)]
       refine ycall (rcOpenCz (f := f) (z := 0) hR hd (by omega) (by omega) (by omega) (by omega)) rfl Tryz.call44 ztk rfl ?_
       rintro v L' ⟨ct, rfl, rfl⟩
       obtain ⟨C0, hC0⟩ : ∃ C, cz D f 0 = C := ⟨_, rfl⟩
       have htx := cz_text (z := 0) hd (show 0 ≤ f by omega) (by omega)
       rw [hC0] at htx ⊢
       refine ymv ?_
       refine yxt ?_
       refine yxt ?_
       refine yni ?_
       refine y (ev_fieldAddr 0 rfl Tryz.underlying77 rfl Tryz.sizeOf52) rfl ?_
       refine ya0 (ac_store rfl rfl (by first | rfl | exact svVal_one _ _ | assumption) Tryz.sizeOf52 zrp rfl rfl) ?_
       rintro v L' ⟨rfl, rfl⟩
       refine ynil' (kthn (hK12 _ _ ?_))
       clear hK12
       refine cseq ?_; intro K13 hK13
       refine creg ?_
       refine ymv ?_
       refine yni ?_
       refine y (ev_fieldAddr 0 rfl Tryz.underlying77 rfl Tryz.sizeOf52) rfl ?_
       refine y (ev_load rfl Tryz.isAgg52 zin rfl) rfl ?_
       refine yni ?_
       refine y (ev_fieldAddr 5 rfl Tryz.underlying108 rfl Tryz.sizeOf9) rfl ?_
       refine y (ev_load rfl Tryz.isAgg9 zin rfl) rfl ?_
       refine ycall (x13nums (t := C0.text) ?nl80 ?nn80 ?nx80) rfl Tryz.call66 ztk rfl ?_
       case nl80 => omega
       case nn80 => omega
       case nx80 => omega
       rintro v L' ⟨sn72, nv72, dd72, rfl, rfl, okn72, hn72⟩
       refine ymv ?_
       refine yxt ?_
       refine yxt ?_
       refine yxt ?_
       refine yas ?_
       refine yas ?_
       refine yas ?_
       refine ynil' (kthn (hK13 _ _ ?_))
       clear hK13
       refine cseq ?_; intro K14 hK14
       have hJr10 : ∀ x : Int, (tokOf C0.text = x) → Sk 162 K14 ([(8, ptr b52), (0, ptr p), (1, i64 f), (2, i64 n)]) ([sc b52 [ptr ct, i64 x, .slice none 0 0, i64 0, i64 0, i64 0, i64 0] 77, rcelP ct p C0, rdev p la E] ++ R) := by
        rintro ep hIr10
        refine hK14 _ _ ?_
        have hep := hIr10
        refine cseq ?_; intro K15 hK15
        refine cseq ?_; intro K16 hK16
        refine creg ?_
        refine yas ?_
        refine ynil' (kthn (hK16 _ _ ?_))
        clear hK16
        have hJ1 : ∀ x : Nat × Sv × List Nat, ((x.1 ≤ n ∧ x.2.2.length = x.1 ∧ svOk x.2.1 x.1 4 (rowsV (zipR x.2.2 (bsTo D f x.1)))) ∧ (x.1 = n)) → Sk 162 K15 ([(12, i64 x.1), (8, ptr b52), (0, ptr p), (1, i64 f), (2, i64 n)]) ([sc b52 ([ptr ct, i64 ep, svVal x.2.1 x.1] ++ intsV (tabTo D f x.1)) 77, svSeg x.2.1 137 (rowsV (zipR x.2.2 (bsTo D f x.1))), rcelP ct p C0, rcelsP x.2.2 p (csTo D f x.1), rdev p la E] ++ R) := by
         rintro ⟨k, sv, ps⟩ ⟨hI1, hX1⟩
         refine hK15 _ _ ?_
         obtain ⟨hk, hpl, oks⟩ := hI1; dsimp only at hk hpl oks ⊢
         dsimp only at hX1; have hx := hX1.symm; subst hx
         obtain ⟨b0, cap0, sp0, rfl, hc0⟩ := sv_some oks (by omega)
         refine cseq ?_; intro K17 hK17
         refine creg ?_
         refine ymv ?_
         refine yas ?_
         refine yas ?_
         refine ynil' (kthn (hK17 _ _ ?_))
         clear hK17
         refine cret ?_
         first
           | (exfalso; omega; done)
           | (refine kretv2 Tryz.results30 rfl rfl (L1 := [sc b52 _ 77, rsB b0 sp0 ps _, rcelP ct p C0, rcelsP ps p _, rdev p la E] ++ R) zge ?_
              exact ⟨_, .inr ⟨hse, b52, ct, b0, cap0, sp0, ps, by simpa using hpl, rfl, by rw [Int.toNat_natCast]; simp only [rsP, rsV13, rsB, openS, List.length_map, List.length_range, hC0, hep]; rfl⟩, rfl⟩)
        clear hK15
        refine cblock ?_
        refine cloop (A := Nat × Sv × List Nat) (fun x => [(12, i64 x.1), (8, ptr b52), (0, ptr p), (1, i64 f), (2, i64 n)]) (fun x => [sc b52 ([ptr ct, i64 ep, svVal x.2.1 x.1] ++ intsV (tabTo D f x.1)) 77, svSeg x.2.1 137 (rowsV (zipR x.2.2 (bsTo D f x.1))), rcelP ct p C0, rcelsP x.2.2 p (csTo D f x.1), rdev p la E] ++ R) (fun x => x.1 ≤ n ∧ x.2.2.length = x.1 ∧ svOk x.2.1 x.1 4 (rowsV (zipR x.2.2 (bsTo D f x.1)))) (fun x => n - x.1) ((0, none, [])) ?_ zsub zge ?_
        · exact ⟨Nat.zero_le _, rfl, rfl, rfl⟩
        rintro ⟨k, sv, ps⟩ hI1 KL1 hL1
        have hI1o := hI1
        obtain ⟨hk, hpl, oks⟩ := hI1; dsimp only at hk hpl oks ⊢
        refine cseq ?_; intro K18 hK18
        refine cseq ?_; intro K19 hK19
        refine creg ?_
        refine ymv ?_
        refine ymv ?_
        refine y (ev_lss rfl rfl) rfl ?_
        refine ynil' (kthn (hK19 _ _ ?_))
        clear hK19
        refine ccond rfl (fun h95 => ?_) (fun h95 => ?_)
        ·(try simp only [sH] at h95)
         refine cskip' (kthn (hK18 _ _ ?_))
         clear hK18
         refine cseq ?_; intro K20 hK20
         refine cblock ?_
         refine cseq ?_; intro K21 hK21
         refine creg ?_
         refine ymv ?_
         refine ymv ?_
         refine y (ev_add rfl rfl) rfl ?_
         rw [wr (by omega) (by omega)]
         refine ymv ?_
         refine y (ev_mul rfl rfl) rfl ?_
         rw [wr (by omega) (by omega)]
         refine y (ev_add rfl rfl) rfl ?_
         rw [wr (by omega) (by omega)]
         refine ymv ?_
         refine y (ev_add rfl rfl) rfl ?_
         rw [wr (by omega) (by omega)]
         refine ymv ?_
         refine y (ev_mul rfl rfl) rfl ?_
         rw [wr (by omega) (by omega)]
         refine y (ev_add rfl rfl) rfl ?_
         rw [wr (by omega) (by omega)]
         refine ycall (rcOpenCz (f := f) (z := k + 1) hR hd (by omega) (by omega) (by omega) (by omega)) rfl Tryz.call44 ztk rfl ?_
         rintro v L' ⟨cb, rfl, rfl⟩
         obtain ⟨C1, hC1⟩ : ∃ C, cz D f (k + 1) = C := ⟨_, rfl⟩
         have htx1 := cz_text (z := k + 1) hd (show 0 ≤ f by omega) (by omega)
         have htl := (tabTo_ok D f k).len
         rw [hC1] at htx1 ⊢
         refine ymv ?_
         refine yxt ?_
         refine yxt ?_
         refine yas ?_
         refine yas ?_
         refine ynil' (kthn (hK21 _ _ ?_))
         clear hK21
         refine cseq ?_; intro K22 hK22
         refine creg ?_
         refine ymv ?_
         refine y (ev_build (zs := _) rfl Tryz.underlying137 Tryz.zeroValue137 rfl (.cons Tryz.sizeOf52 (.cons Tryz.sizeOf72 (.cons Tryz.sizeOf9 .nil))) ⟨⟨_, _, rfl, (by first | rfl | simp), (by first | decide | simp)⟩, ⟨⟨_, _, rfl, (by first | rfl | simp), (by first | decide | simp)⟩, trivial⟩⟩ (by dsimp [fillL, splice, vcells] <;> rfl)) rfl ?_
         refine ya (ac_alloc Tryz.zeroValue137 rfl) rfl ?_
         rintro v L' ⟨b15, rfl, rfl⟩
         refine ya0 (ac_storeAll rfl rfl (by first | exact bytesV_one _ | (simp [Value.oneCell']; done) | (simp only [List.forall_mem_cons, List.not_mem_nil, false_implies, implies_true, svVal_one, and_true, true_and, and_self]; first | done | simp [Value.oneCell'])) Tryz.sizeOf137 zrp (by first | rfl | assumption | (simp [*]; done) | (simp [*]; omega)) (by first | rfl | assumption | (simp [*]; done) | (simp [*]; omega))) ?_
         rintro v L' ⟨rfl, rfl⟩
         refine ynil' (kthn (hK22 _ _ ?_))
         clear hK22
         refine cseq ?_; intro K23 hK23
         refine creg ?_
         refine ymv ?_
         refine yni ?_
         refine y (ev_fieldAddr 5 rfl Tryz.underlying108 rfl Tryz.sizeOf9) rfl ?_
         refine y (ev_load rfl Tryz.isAgg9 zin rfl) rfl ?_
         refine ycall (x13nums (t := C1.text) ?nl121 ?nn121 ?nx121) rfl Tryz.call66 ztk rfl ?_
         case nl121 => omega
         case nn121 => omega
         case nx121 => omega
         rintro v L' ⟨sn110, nv110, dd110, rfl, rfl, okn110, hn110⟩
         refine ymv ?_
         refine yxt ?_
         refine yxt ?_
         refine yxt ?_
         refine yas ?_
         refine yas ?_
         refine yas ?_
         refine ynil' (kthn (hK23 _ _ ?_))
         clear hK23
         refine cseq ?_; intro K24 hK24
         have hJr24 : ∀ x : Nat × Nat, (k < n) → Sk 162 K24 ([(15, ptr x.2), (12, i64 k), (8, ptr b52), (0, ptr p), (1, i64 f), (2, i64 n)]) ([sc x.2 [ptr x.1, i64 (blkOf (cz D f (k + 1)).text).v0, i64 (blkOf (cz D f (k + 1)).text).v1, str (blkOf (cz D f (k + 1)).text).data] 137, sc b52 ([ptr ct, i64 ep, svVal sv k] ++ intsV (tabTo D f (k + 1))) 77, svSeg sv 137 (rowsV (zipR ps (bsTo D f k))), rcelP ct p C0, rcelP x.1 p (cz D f (k + 1)), rcelsP ps p (csTo D f k), rdev p la E] ++ R) := by
          rintro ⟨cb, bb⟩ hIr24
          refine hK24 _ _ ?_
          have hkn := hIr24; dsimp only
          obtain ⟨B1, hB1⟩ : ∃ B, blkOf (cz D f (k + 1)).text = B := ⟨_, rfl⟩
          have hadd : rowsV (zipR ps (bsTo D f k)) ++ [ptr cb, i64 B1.v0, i64 B1.v1, str B1.data] = rowsV (zipR (ps ++ [cb]) (bsTo D f (k + 1))) := by rw [bsTo_succ, zipR_snoc (by rw [bsTo_len]; exact hpl), rowsV_app, hB1]; simp [rowsV, RowM.cells]
          rw [hB1]
          refine cdraw 10 [(0, true), (1, true), (2, true), (3, true), (4, true), (5, true), (6, false), (7, false), (8, true), (9, true)] ([sc bb [ptr cb, i64 B1.v0, i64 B1.v1, str B1.data] 137, sc b52 _ 77] ++ R) Tryz.mixed (by kernel_rfl) zge ?_
          refine hr rfl (ev_move rfl) rfl ?_
          refine hr rfl (ev_move rfl) rfl ?_
          refine hr rfl (ev_nil rfl) rfl ?_
          refine hr rfl (ev_fieldAddr 2 rfl Tryz.underlying77 rfl Tryz.sizeOf75) rfl ?_
          refine hr rfl (ev_load rfl Tryz.isAgg75 zin rfl) rfl ?_
          refine hr rfl (ev_loadN (u := [ptr cb, i64 B1.v0, i64 B1.v1, str B1.data]) rfl Tryz.isAgg137 Tryz.sizeOf137 zin rfl rfl) rfl ?_
          refine ha rfl (ac_bsliceR rfl Tryz.underlying75 Tryz.sizeOf137 Tryz.zeroValue137 rfl rfl rfl rfl ⟨⟨_, _, rfl, (by first | rfl | simp), (by first | decide | simp)⟩, trivial⟩ (by dsimp [fillL, splice, vcells, reps] <;> rfl)) rfl ?_
          rintro v L' ⟨b157, rfl, rfl⟩; refine ⟨zge, ?_⟩
          refine ha rfl (ac_append (s := sv) (xs := rowsV (zipR ps (bsTo D f k))) (m := k) (k := 1) (us := [ptr cb, i64 B1.v0, i64 B1.v1, str B1.data]) (size := 4) rfl rfl (by repeat first | exact .z | apply Pk.s) Tryz.underlying75 Tryz.underlying75 (by intro q hq; cases hq) Tryz.typeInfo137 rfl rfl rfl ?ok136 ?src136 ?one136 ?big136) rfl ?_
          case ok136 => exact oks
          case src136 => exact src_at zin rfl rfl
          case one136 => intro u hu; simp at hu; rcases hu with rfl | rfl | rfl | rfl <;> rfl
          case big136 => show (k + 1) * 41 ≤ _; omega
          rintro v L' ⟨s158, rfl, ok158, rfl⟩; refine ⟨zge, ?_⟩
          rw [hadd] at ok158 ⊢
          refine hr rfl (ev_nil rfl) rfl ?_
          refine hr rfl (ev_fieldAddr 2 rfl Tryz.underlying77 rfl Tryz.sizeOf75) rfl ?_
          refine hnil ?_
          refine ya0 (ac_store rfl rfl (by first | rfl | exact svVal_one _ _ | assumption) Tryz.sizeOf75 zrp rfl rfl) ?_
          rintro v L' ⟨rfl, rfl⟩
          refine hnoP' (kbn (kthn (hK20 _ _ ?_)))
          clear hK20
          refine creg ?_
          refine ymv ?_
          refine y (ev_add rfl rfl) rfl ?_
          rw [show IntKind.i64.wrap ((k:Int) + 1) = ((k+1 : Nat) : Int) by rw [wr (by omega) (by omega)]; rfl]
          refine yas ?_
          refine ynil' (kthn ?_)
          refine ksub (l' := _) (fun _ _ h => h) (L' := [sc b52 ([ptr ct, i64 ep, svVal s158 (k + 1)] ++ intsV (tabTo D f (k + 1))) 77, svSeg s158 137 (rowsV (zipR (ps ++ [cb]) (bsTo D f (k + 1)))), rcelP ct p C0, rcelP cb p (cz D f (k + 1)), rcelsP ps p (csTo D f k), rdev p la E] ++ R) zge ?_
          refine kpm (L' := [sc b52 ([ptr ct, i64 ep, svVal s158 (k + 1)] ++ intsV (tabTo D f (k + 1))) 77, svSeg s158 137 (rowsV (zipR (ps ++ [cb]) (bsTo D f (k + 1)))), rcelP ct p C0, rcelsP (ps ++ [cb]) p (csTo D f (k + 1)), rdev p la E] ++ R) ?_ (hL1 (k + 1, s158, ps ++ [cb]) ⟨by dsimp only; omega, by simp [hpl], ok158⟩ (by dsimp only; omega) _ _ zsub zge)
          rw [csTo_succ, rcels_snoc (by rw [csTo_len]; exact hpl)]
          simp only [List.cons_append, List.nil_append, List.flatten_cons, List.append_assoc]
          refine List.Perm.append_left _ (List.Perm.append_left _ (List.Perm.append_left _ ?_))
          exact List.perm_append_comm_assoc _ _ _
         clear hK24
         refine cseq ?_; intro K25 hK25
         refine creg ?_
         have hbo : blkOf C1.text = if numsOk C1.text 30 6 1 = true then ⟨(decM C1.text).1.nums.getD 0 0, (decM C1.text).1.nums.getD 1 0, (decM C1.text).1.texts.getD 0 []⟩ else .zero := by rw [numsOk_blk]; rfl
         have htt : tabTo D f (k + 1) = if numsOk C1.text 30 6 1 = true then maxT (tabTo D f k) ((decM C1.text).1.nums.drop 2) else tabTo D f k := by rw [numsOk_blk]; show tabOf _ _ = _; rw [hC1]; rfl
         have hn6 : numsOk C1.text 30 6 1 = true → (decM C1.text).1.nums.length = 6 := fun h => by rw [numsOk_blk] at h; exact (blkOk_nums h).1
         generalize numsOk C1.text 30 6 1 = ok1 at *
         refine ymv ?_
         refine ynil' (kthn (hK25 _ _ ?_))
         clear hK25
         refine ccond rfl (fun h144 => ?_) (fun h144 => ?_)
         ·(try simp only [sH] at h144)
          rw [if_pos h144] at hbo htt
          obtain ⟨rfl, hdd⟩ := hn110 h144
          have hdd := hdd (by decide)
          have hnl1 := hn6 h144
          have hvn : RdV [svSeg sn110 2 (intsV (decM C1.text).1.nums)] (svVal sn110 (decM C1.text).1.nums.length) (decM C1.text).1.nums.length (intsV (decM C1.text).1.nums) := rdV_sv .z okn110
          have hd4 : ((decM C1.text).1.nums.drop 2).length = 4 := by rw [List.length_drop]; omega
          refine cseq ?_; intro K26 hK26
          refine cdraw 8 [(0, true), (1, true), (2, true), (3, true), (4, true), (5, true), (6, true), (7, true)] ([svSeg sn110 2 (intsV (decM C1.text).1.nums)] ++ R) Tryz.mixed (by kernel_rfl) zge ?_
          refine hr rfl (ev_move rfl) rfl ?_
          refine hr rfl (ev_ixV hvn rfl rfl Tryz.underlying53 Tryz.sizeOf2 (by omega) (by omega)) rfl ?_
          refine hr rfl (ev_loadV 0 hvn zge rfl Tryz.isAgg2 rfl (intsV_get (getd_get (d := 0) (by omega)))) rfl ?_
          refine hr rfl (ev_move rfl) rfl ?_
          refine hr rfl (ev_ixV hvn rfl rfl Tryz.underlying53 Tryz.sizeOf2 (by omega) (by omega)) rfl ?_
          refine hr rfl (ev_loadV 1 hvn zge rfl Tryz.isAgg2 rfl (intsV_get (getd_get (d := 0) (by omega)))) rfl ?_
          refine hr rfl (ev_build (zs := _) rfl Tryz.underlying72 Tryz.zeroValue72 rfl (.cons Tryz.sizeOf2 (.cons Tryz.sizeOf2 .nil)) ⟨⟨_, _, rfl, (by first | rfl | simp), (by first | decide | simp)⟩, ⟨⟨_, _, rfl, (by first | rfl | simp), (by first | decide | simp)⟩, trivial⟩⟩ (by dsimp [fillL, splice, vcells] <;> rfl)) rfl ?_
          refine hr rfl (ev_fieldAddr 1 rfl Tryz.underlying137 rfl Tryz.sizeOf72) rfl ?_
          refine hnil ?_
          refine ya0 (ac_storeN rfl rfl (by first | exact bytesV_one _ | (simp [Value.oneCell']; done) | (simp only [List.forall_mem_cons, List.not_mem_nil, false_implies, implies_true, svVal_one, and_true, true_and, and_self]; first | done | simp [Value.oneCell'])) Tryz.sizeOf72 zrp rfl (by first | decide | (simp; done) | (simp; omega)) rfl) ?_
          rintro v L' ⟨rfl, rfl⟩
          refine hnoP' (kthn (hK26 _ _ ?_))
          clear hK26
          refine cseq ?_; intro K27 hK27
          refine creg ?_
          refine ymv ?_
          refine y (ev_fieldAddr 3 rfl Tryz.underlying137 rfl Tryz.sizeOf9) rfl ?_
          refine ya0 (ac_store rfl rfl (by first | rfl | exact svVal_one _ _ | assumption) Tryz.sizeOf9 zrp rfl rfl) ?_
          rintro v L' ⟨rfl, rfl⟩
          refine ynil' (kthn (hK27 _ _ ?_))
          clear hK27
          refine cseq ?_; intro K28 hK28
          refine creg ?_
          rw [← maxTo_zero (tabTo D f k) ((decM C1.text).1.nums.drop 2)]
          refine yas ?_
          refine ynil' (kthn (hK28 _ _ ?_))
          clear hK28
          refine cblock ?_
          refine cloop (A := Nat) (fun x => [(19, i64 x), (16, svVal sn110 (decM C1.text).1.nums.length), (15, ptr b15), (12, i64 k), (8, ptr b52), (0, ptr p), (1, i64 f), (2, i64 n)]) (fun x => [sc b15 [ptr cb, i64 ((decM C1.text).1.nums.getD 0 0), i64 ((decM C1.text).1.nums.getD 1 0), str dd110] 137, sc b52 ([ptr ct, i64 ep, svVal sv k] ++ intsV (maxTo (tabTo D f k) ((decM C1.text).1.nums.drop 2) x)) 77, svSeg sn110 2 (intsV (decM C1.text).1.nums), svSeg sv 137 (rowsV (zipR ps (bsTo D f k))), rcelP ct p C0, rcelP cb p C1, rcelsP ps p (csTo D f k), rdev p la E] ++ R) (fun x => x ≤ 4) (fun x => 4 - x) (0) ?_ zsub zge ?_
          · exact Nat.zero_le _
          rintro z hI2 KL2 hL2
          have hz := hI2
          refine cseq ?_; intro K29 hK29
          refine cseq ?_; intro K30 hK30
          refine creg ?_
          refine ymv ?_
          refine y (ev_lss rfl rfl) rfl ?_
          refine ynil' (kthn (hK30 _ _ ?_))
          clear hK30
          refine ccond rfl (fun h160 => ?_) (fun h160 => ?_)
          ·(try simp only [sH] at h160)
           refine cskip' (kthn (hK29 _ _ ?_))
           clear hK29
           refine cseq ?_; intro K31 hK31
           refine cblock ?_
           refine cseq ?_; intro K32 hK32
           refine cdraw 11 [(0, true), (1, true), (2, true), (3, true), (4, true), (5, true), (6, true), (7, true), (8, true), (9, true), (10, true)] ([svSeg sn110 2 (intsV (decM C1.text).1.nums), sc b52 _ 77] ++ R) Tryz.mixed (by kernel_rfl) zge ?_
           have hnz : (decM C1.text).1.nums[2 + z]? = some (((decM C1.text).1.nums.drop 2).getD z 0) := by rw [← List.getElem?_drop]; exact getd_get (by omega)
           have hmz := maxTo_get htl hd4 (k := z) (by omega)
           have hms := maxTo_set htl hd4 (k := z) (by omega)
           have hmk := maxTo_keep htl hd4 (k := z) (by omega)
           refine hr rfl (ev_move rfl) rfl ?_
           refine hr rfl (ev_move rfl) rfl ?_
           refine hr rfl (ev_add rfl rfl) rfl ?_
           rw [wr (by omega) (by omega)]
           refine hr rfl (ev_ixV hvn rfl rfl Tryz.underlying53 Tryz.sizeOf2 (by omega) (by omega)) rfl ?_
           refine hr rfl (ev_loadV (2 + z) hvn zge rfl Tryz.isAgg2 (by simp; omega) (intsV_get hnz)) rfl ?_
           refine hr rfl (ev_move rfl) rfl ?_
           refine hr rfl (ev_move rfl) rfl ?_
           refine hr rfl (ev_nil rfl) rfl ?_
           refine hr rfl (ev_fieldAddr 3 rfl Tryz.underlying77 rfl Tryz.sizeOf35) rfl ?_
           refine hr rfl (ev_ixAddrA rfl rfl Tryz.underlying35 Tryz.sizeOf2 (by omega) (by omega)) rfl ?_
           refine hr rfl (ev_load rfl Tryz.isAgg2 zin (by rw [show 0 + 3 + (z : Int).toNat * 1 = z + 3 by simp; omega]; exact intsV_get hmz)) rfl ?_
           refine hnil ?_
           refine y (ev_gtr rfl rfl) rfl ?_
           refine hnoP' (kthn (hK32 _ _ ?_))
           clear hK32
           refine ccond rfl (fun h173 => ?_) (fun h173 => ?_)
           ·(try simp only [sH] at h173)
            refine cdraw 10 [(0, true), (1, true), (2, true), (3, true), (4, true), (5, true), (6, true), (7, true), (8, true), (9, true)] ([svSeg sn110 2 (intsV (decM C1.text).1.nums)] ++ R) Tryz.mixed (by kernel_rfl) zge ?_
            refine hr rfl (ev_move rfl) rfl ?_
            refine hr rfl (ev_move rfl) rfl ?_
            refine hr rfl (ev_move rfl) rfl ?_
            refine hr rfl (ev_move rfl) rfl ?_
            refine hr rfl (ev_add rfl rfl) rfl ?_
            rw [wr (by omega) (by omega)]
            refine hr rfl (ev_ixV hvn rfl rfl Tryz.underlying53 Tryz.sizeOf2 (by omega) (by omega)) rfl ?_
            refine hr rfl (ev_loadV (2 + z) hvn zge rfl Tryz.isAgg2 (by simp; omega) (intsV_get hnz)) rfl ?_
            refine hr rfl (ev_nil rfl) rfl ?_
            refine hr rfl (ev_fieldAddr 3 rfl Tryz.underlying77 rfl Tryz.sizeOf35) rfl ?_
            refine hr rfl (ev_ixAddrA rfl rfl Tryz.underlying35 Tryz.sizeOf2 (by omega) (by omega)) rfl ?_
            refine hnil ?_
            refine ya0 (ac_store (vs' := [ptr ct, i64 ep, svVal sv k] ++ intsV (maxTo (tabTo D f k) ((decM C1.text).1.nums.drop 2) (z + 1))) rfl rfl rfl Tryz.sizeOf2 zrp (by simp [intsV, maxTo_len htl hd4]; omega) (by rw [← hms, show max ((tabTo D f k).getD z 0) (((decM C1.text).1.nums.drop 2).getD z 0) = ((decM C1.text).1.nums.drop 2).getD z 0 by omega, ← intsV_set, show 0 + 3 + (z : Int).toNat * 1 = z + 3 by simp; omega]; rfl)) ?_
            rintro v L' ⟨rfl, rfl⟩
            refine hnoP' (kbn (kthn (hK31 _ _ ?_)))
            clear hK31
            refine creg ?_
            refine ymv ?_
            refine y (ev_add rfl rfl) rfl ?_
            rw [show IntKind.i64.wrap ((z:Int) + 1) = ((z+1 : Nat) : Int) by rw [wr (by omega) (by omega)]; rfl]
            refine yas ?_
            refine ynil' (kthn ?_)
            exact hL2 (z + 1) ((show z + 1 ≤ 4 by omega)) (by omega) _ _ zsub zge
           ·(try simp only [sH] at h173)
            rw [← hmk (by omega)]
            refine cskip' (kbn (kthn (hK31 _ _ ?_)))
            clear hK31
            refine creg ?_
            refine ymv ?_
            refine y (ev_add rfl rfl) rfl ?_
            rw [show IntKind.i64.wrap ((z:Int) + 1) = ((z+1 : Nat) : Int) by rw [wr (by omega) (by omega)]; rfl]
            refine yas ?_
            refine ynil' (kthn ?_)
            exact hL2 (z + 1) ((show z + 1 ≤ 4 by omega)) (by omega) _ _ zsub zge
          ·(try simp only [sH] at h160)
           obtain rfl : z = 4 := by omega
           rw [maxTo_all htl hd4, ← htt]
           refine cexit (kthx (kthx (kbx (kthn ?_))))
           have hj := hJr24 (cb, b15) (by omega); dsimp only at hj; rw [hC1, hbo] at hj; try rw [← hdd] at hj
           try dsimp only [BlkM.zero] at hj
           exact ksub zsub zge hj
         ·(try simp only [sH] at h144)
          rw [if_neg (by rw [h144]; decide)] at hbo htt
          rw [← htt]
          refine cskip' (kthn ?_)
          have hj := hJr24 (cb, b15) (by omega); dsimp only at hj; rw [hC1, hbo] at hj; try rw [← hdd] at hj
          try dsimp only [BlkM.zero] at hj
          exact ksub zsub zge hj
        ·(try simp only [sH] at h95)
         refine cexit (kthx (kthx (kbx (kthn ?_))))
         exact ksub zsub zge (hJ1 ⟨k, sv, ps⟩ ⟨hI1o, by first | trivial | omega⟩)
       clear hK14
       refine cseq ?_; intro K33 hK33
       refine creg ?_
       have htk : tokOf C0.text = if (numsOk C0.text 31 1 0) = true then (decM C0.text).1.nums.getD 0 0 else 0 := by rw [numsOk_tok]; rfl
       have hnl : (numsOk C0.text 31 1 0) = true → (decM C0.text).1.nums.length = 1 := fun h => by rw [numsOk_tok] at h; unfold readB at h; simp only [Bool.and_eq_true, decide_eq_true_eq] at h; omega
       generalize numsOk C0.text 31 1 0 = ok0 at *
       refine ymv ?_
       refine ynil' (kthn (hK33 _ _ ?_))
       clear hK33
       refine ccond rfl (fun h192 => ?_) (fun h192 => ?_)
       ·(try simp only [sH] at h192)
        rw [if_pos h192] at htk
        obtain ⟨rfl, -⟩ := hn72 h192
        have hnl1 := hnl h192
        have hvn : RdV [svSeg sn72 2 (intsV (decM C0.text).1.nums)] (svVal sn72 (decM C0.text).1.nums.length) (decM C0.text).1.nums.length (intsV (decM C0.text).1.nums) := rdV_sv .z okn72
        refine creg ?_
        refine ymv ?_
        refine ymv ?_
        refine y (ev_ixV hvn rfl rfl Tryz.underlying53 Tryz.sizeOf2 (by omega) (by omega)) rfl ?_
        refine y (ev_loadV 0 hvn zge rfl Tryz.isAgg2 rfl (intsV_get (getd_get (d := 0) (by omega)))) rfl ?_
        refine yni ?_
        refine y (ev_fieldAddr 1 rfl Tryz.underlying77 rfl Tryz.sizeOf2) rfl ?_
        refine ya0 (ac_store rfl rfl (by first | rfl | exact svVal_one _ _ | assumption) Tryz.sizeOf2 zrp rfl rfl) ?_
        rintro v L' ⟨rfl, rfl⟩
        refine ynil' (kthn ?_)
        exact ksub zsub zge (hJr10 _ htk)
       ·(try simp only [sH] at h192)
        rw [if_neg (by rw [h192]; decide)] at htk
        refine cskip' (kthn ?_)
        exact ksub zsub zge (hJr10 _ htk)
end W
end Go.Proofs
