/- A part of the proof: contracts and plain lemmas, each without conditions beyond those that it names. -/
import Derived.Test.YtebijajimmjknaaGreatT16
import Derived.Test.YtebijajimmjknaaGreatGG
set_option linter.unusedVariables false
set_option linter.unusedSimpArgs false
set_option linter.constructorNameAsVariable false
namespace Go.Proofs
open Go Go.Sl
namespace W
set_option linter.unusedVariables false
theorem rnumber [Env] {R : List Seg} {v : Value} {bs : Bytes} {at0 : Nat} (hb : RdV R v bs.length (bytesV bs)) (hl : bs.length ≤ 100000) (ha : at0 ≤ bs.length) :
   Con Tryz.prog 77 [v, i64 at0] [] R (Is (.tuple #[i64 (numT bs at0).1, i64 (numT bs at0).2.1, .bool (numT bs at0).2.2]) []) := by
 refine con_enter Tryz.func77 Tryz.ntmps77 rfl rfl ?_
 refine cseq ?_; intro K1 hK1
 refine creg ?_
 refine yas ?_
 refine yas ?_
 refine yas ?_
 refine ynil' (kthn (hK1 _ _ ?_))
 clear hK1
 refine cseq ?_; intro K2 hK2
 refine creg ?_
 refine yas ?_
 refine ynil' (kthn (hK2 _ _ ?_))
 clear hK2
 refine cseq ?_; intro K3 hK3
 refine creg ?_
 refine yas ?_
 refine ynil' (kthn (hK3 _ _ ?_))
 clear hK3
 refine cseq ?_; intro K4 hK4
 refine cseq ?_; intro K5 hK5
 refine creg ?_
 refine yas ?_
 refine ynil' (kthn (hK5 _ _ ?_))
 clear hK5
 refine cblock ?_
 refine cloop (A := Nat × Nat × Nat) (fun x => [(9, i64 x.1), (8, .int .u64 ((2 ^ (7 * x.1) : Nat) : Int)), (7, .int .u64 (x.2.1 : Nat)), (1, i64 x.2.2), (0, v)]) (fun x => R) (fun x => NumI (bs.drop at0) x.1 x.2.1 (bs.drop x.2.2) ∧ at0 ≤ x.2.2 ∧ x.2.2 ≤ bs.length) (fun x => 10 - x.1) ((0, 0, at0)) ?_ zsub zge ?_
 · exact ⟨.zero _, Nat.le_refl _, ha⟩
 rintro ⟨k, u, p⟩ hI1 KL1 hL1
 obtain ⟨hi, hp0, hp1⟩ := hI1; dsimp only at hi hp0 hp1 ⊢; have hk9 := hi.k9
 refine cseq ?_; intro K6 hK6
 refine cseq ?_; intro K7 hK7
 refine creg ?_
 refine ymv ?_
 refine y (ev_lss rfl rfl) rfl ?_
 refine ynil' (kthn (hK7 _ _ ?_))
 clear hK7
 refine ccond rfl (fun h9 => ?_) (fun h9 => ?_)
 ·(try simp only [sH] at h9)
  refine cskip' (kthn (hK6 _ _ ?_))
  clear hK6
  refine cseq ?_; intro K8 hK8
  refine cblock ?_
  refine cseq ?_; intro K9 hK9
  refine cseq ?_; intro K10 hK10
  refine creg ?_
  refine ymv ?_
  refine ymv ?_
  first
    | refine y (ev_len rfl Tryz.underlying50) rfl ?_
    | refine y (ev_lenSv rfl Tryz.underlying50 (by assumption)) rfl ?_
    | refine y (ev_lenV rfl Tryz.underlying50 (RdV.lenVal (by assumption))) rfl ?_
    | refine y (ev_lenV rfl Tryz.underlying50 (RdB.lenVal (by assumption))) rfl ?_
  refine y (ev_geq rfl rfl) rfl ?_
  refine ynil' (kthn (hK10 _ _ ?_))
  clear hK10
  refine ccond rfl (fun h14 => ?_) (fun h14 => ?_)
  ·(try simp only [sH] at h14)
   refine cseq ?_; intro K11 hK11
   refine creg ?_
   have hnt : numT bs at0 = (0, 0, false) := by unfold numT; rw [NumI.none (k := k) (u := u) (by rw [List.drop_eq_nil_of_le (show bs.length ≤ p by omega)] at hi; exact hi)]
   refine yas ?_
   refine yas ?_
   refine yas ?_
   refine ynil' (kthn (hK11 _ _ ?_))
   clear hK11
   refine cret (kthr (kbr (kthr (kthr (kbr (kthr ?_))))))
   first
     | (exfalso; omega; done)
     | (refine kretv3 Tryz.results77 rfl rfl rfl (L1 := [] ++ R) zge ?_
        rw [hnt]; exact ⟨_, ⟨rfl, rfl⟩, rfl⟩)
  ·(try simp only [sH] at h14)
   refine cskip' (kthn (hK9 _ _ ?_))
   clear hK9
   refine cseq ?_; intro K12 hK12
   refine creg ?_
   have hdc := drop_cons (bs := bs) (k := p) (by omega)
   rw [hdc] at hi
   obtain ⟨x, hx⟩ : ∃ x : UInt8, bs[p]?.getD 0 = x := ⟨_, rfl⟩
   rw [hx] at hi hdc
   have hxl := x.toNat_lt
   refine ymv ?_
   refine ymv ?_
   refine y (ev_ixV hb rfl rfl Tryz.underlying50 Tryz.sizeOf5 (by omega) (by omega)) rfl ?_
   refine y (ev_loadV p hb zge rfl Tryz.isAgg5 (by simp) (bytesV_get (by omega))) rfl ?_
   rw [hx]
   refine y (ev_conv rfl Tryz.underlying5 Tryz.underlying180) rfl ?_
   rw [wu64, show ((x.toNat : Nat) : Int) % 18446744073709551616 = ((x.toNat : Nat) : Int) by omega]
   refine yas ?_
   refine ynil' (kthn (hK12 _ _ ?_))
   clear hK12
   refine cseq ?_; intro K13 hK13
   refine creg ?_
   refine ymv ?_
   refine y (ev_add rfl rfl) rfl ?_
   rw [show IntKind.i64.wrap ((p : Int) + 1) = ((p + 1 : Nat) : Int) by rw [wr (by omega) (by omega)]; rfl]
   refine yas ?_
   refine ynil' (kthn (hK13 _ _ ?_))
   clear hK13
   refine cseq ?_; intro K14 hK14
   refine cseq ?_; intro K15 hK15
   refine creg ?_
   refine ymv ?_
   refine y (ev_eql rfl rfl) rfl ?_
   refine ymv ?_
   refine ysplit 28 rfl (fun h30 => ?_) (fun h30 => ?_)
   ·(try simp only [sH] at h30)
    refine ygo ?_
    refine ymv ?_
    refine ygo ?_
    refine y (ev_gtr rfl rfl) rfl ?_
    refine ypa ?_
    refine ymv ?_
    refine ysplit 32 rfl (fun h35 => ?_) (fun h35 => ?_)
    ·(try simp only [sH] at h35)
     refine ygz ?_
     refine ygz ?_
     refine ygz ?_
     refine yg0u rfl rfl rfl ?_
     refine yg0u rfl rfl rfl ?_
     refine ygz ?_
     refine ypa ?_
     refine ynil' (kthn (hK15 _ _ ?_))
     clear hK15
     refine ccond1 rfl ?_
     refine cseq ?_; intro K16 hK16
     refine creg ?_
     have hnt : numT bs at0 = (0, 0, false) := by unfold numT; rw [hi.bad (by omega)]
     refine yas ?_
     refine yas ?_
     refine yas ?_
     refine ynil' (kthn (hK16 _ _ ?_))
     clear hK16
     refine cret (kthr (kbr (kthr (kthr (kbr (kthr ?_))))))
     first
       | (exfalso; omega; done)
       | (refine kretv3 Tryz.results77 rfl rfl rfl (L1 := [] ++ R) zge ?_
          rw [hnt]; exact ⟨_, ⟨rfl, rfl⟩, rfl⟩)
    ·(try simp only [sH] at h35)
     refine ygo ?_
     refine ymv ?_
     refine ygo ?_
     refine y (ev_gtr rfl rfl) rfl ?_
     refine ygo ?_
     refine ymv ?_
     refine ysplit 35 rfl (fun h43 => ?_) (fun h43 => ?_)
     ·(try simp only [sH] at h43)
      refine ygo ?_
      refine ymv ?_
      refine ygo ?_
      refine y (ev_eql rfl rfl) rfl ?_
      refine ygo ?_
      refine ypa ?_
      refine ypb ?_
      refine ynil' (kthn (hK15 _ _ ?_))
      clear hK15
      refine ccond rfl (fun h48 => ?_) (fun h48 => ?_)
      ·(try simp only [sH] at h48)
       refine cseq ?_; intro K17 hK17
       refine creg ?_
       have hnt : numT bs at0 = (0, 0, false) := by unfold numT; rw [hi.bad (by omega)]
       refine yas ?_
       refine yas ?_
       refine yas ?_
       refine ynil' (kthn (hK17 _ _ ?_))
       clear hK17
       refine cret (kthr (kbr (kthr (kthr (kbr (kthr ?_))))))
       first
         | (exfalso; omega; done)
         | (refine kretv3 Tryz.results77 rfl rfl rfl (L1 := [] ++ R) zge ?_
            rw [hnt]; exact ⟨_, ⟨rfl, rfl⟩, rfl⟩)
      ·(try simp only [sH] at h48)
       refine cskip' (kthn (hK14 _ _ ?_))
       clear hK14
       refine cseq ?_; intro K18 hK18
       refine creg ?_
       have hok : ¬ ((k = 9 ∧ 1 < x.toNat) ∨ (0 < k ∧ x.toNat = 0)) := by omega
       obtain ⟨hf1, hf2⟩ := hi.fit hok
       refine ymv ?_
       refine ymv ?_
       refine y (ev_rem rfl rfl (by decide)) rfl ?_
       rw [show ((x.toNat : Nat) : Int).tmod 128 = ((x.toNat % 128 : Nat) : Int) from rfl]
       refine ymv ?_
       refine y (ev_mul rfl rfl) rfl ?_
       refine y (ev_add rfl rfl) rfl ?_
       rw [fit64 hi hok]
       obtain ⟨uu, huu⟩ : ∃ uu, u + x.toNat % 128 * 2 ^ (7 * k) = uu := ⟨_, rfl⟩
       rw [huu] at hf2 ⊢
       refine yas ?_
       refine ynil' (kthn (hK18 _ _ ?_))
       clear hK18
       refine cseq ?_; intro K19 hK19
       refine creg ?_
       refine ymv ?_
       refine y (ev_mul rfl rfl) rfl ?_
       refine yas ?_
       refine ynil' (kthn (hK19 _ _ ?_))
       clear hK19
       refine cseq ?_; intro K20 hK20
       refine creg ?_
       refine ymv ?_
       refine y (ev_lss rfl rfl) rfl ?_
       refine ynil' (kthn (hK20 _ _ ?_))
       clear hK20
       refine ccond rfl (fun h64 => ?_) (fun h64 => ?_)
       ·(try simp only [sH] at h64)
        refine cseq ?_; intro K21 hK21
        refine cseq ?_; intro K22 hK22
        refine creg ?_
        have hlast := hi.last hok (by omega)
        rw [huu] at hlast
        have hnt : numT bs at0 = (zag uu, ((p + 1 : Nat) : Int), true) := by unfold numT; rw [hlast]; simp only [List.length_drop]; rw [show bs.length - (bs.length - (p + 1)) = p + 1 by omega]
        refine ymv ?_
        refine y (ev_rem rfl rfl (by decide)) rfl ?_
        rw [show ((uu : Nat) : Int).tmod 2 = ((uu % 2 : Nat) : Int) from rfl]
        refine y (ev_eql rfl rfl) rfl ?_
        refine ynil' (kthn (hK22 _ _ ?_))
        clear hK22
        refine ccond rfl (fun h68 => ?_) (fun h68 => ?_)
        ·(try simp only [sH] at h68)
         have hzz := zag_neg (u := uu) (by omega)
         refine cseq ?_; intro K23 hK23
         refine creg ?_
         refine ymv ?_
         refine y (ev_quo rfl rfl (by decide)) rfl ?_
         rw [wu64, show ((uu : Nat) : Int).tdiv 2 = ((uu / 2 : Nat) : Int) from rfl, show ((uu / 2 : Nat) : Int) % 18446744073709551616 = ((uu / 2 : Nat) : Int) by omega]
         refine y (ev_conv rfl Tryz.underlying180 Tryz.underlying2) rfl ?_
         rw [wr (by omega) (by omega)]
         refine y (ev_neg rfl) rfl ?_
         rw [wr (by omega) (by omega)]
         refine y (ev_sub rfl rfl) rfl ?_
         rw [wr (by omega) (by omega), ← hzz]
         refine ymv ?_
         refine yas ?_
         refine yas ?_
         refine yas ?_
         refine ynil' (kthn (hK23 _ _ ?_))
         clear hK23
         refine cret (kthr (kbr (kthr (kthr (kbr (kthr ?_))))))
         first
           | (exfalso; omega; done)
           | (refine kretv3 Tryz.results77 rfl rfl rfl (L1 := [] ++ R) zge ?_
              rw [hnt]; exact ⟨_, ⟨rfl, rfl⟩, rfl⟩)
        ·(try simp only [sH] at h68)
         have hzz := zag_pos (u := uu) (by omega)
         refine cskip' (kthn (hK21 _ _ ?_))
         clear hK21
         refine cseq ?_; intro K24 hK24
         refine creg ?_
         refine ymv ?_
         refine y (ev_quo rfl rfl (by decide)) rfl ?_
         rw [wu64, show ((uu : Nat) : Int).tdiv 2 = ((uu / 2 : Nat) : Int) from rfl, show ((uu / 2 : Nat) : Int) % 18446744073709551616 = ((uu / 2 : Nat) : Int) by omega]
         refine y (ev_conv rfl Tryz.underlying180 Tryz.underlying2) rfl ?_
         rw [wr (by omega) (by omega), ← hzz]
         refine ymv ?_
         refine yas ?_
         refine yas ?_
         refine yas ?_
         refine ynil' (kthn (hK24 _ _ ?_))
         clear hK24
         refine cret (kbr (kthr (kthr (kbr (kthr ?_)))))
         first
           | (exfalso; omega; done)
           | (refine kretv3 Tryz.results77 rfl rfl rfl (L1 := [] ++ R) zge ?_
              rw [hnt]; exact ⟨_, ⟨rfl, rfl⟩, rfl⟩)
       ·(try simp only [sH] at h64)
        have hk8 : k ≤ 8 := by omega
        have hnx := hi.next hok (by omega)
        rw [huu] at hnx
        rw [part_next hk8]
        refine cskip' (kbn (kthn (hK8 _ _ ?_)))
        clear hK8
        refine creg ?_
        refine ymv ?_
        refine y (ev_add rfl rfl) rfl ?_
        rw [show IntKind.i64.wrap ((k:Int) + 1) = ((k+1 : Nat) : Int) by rw [wr (by omega) (by omega)]; rfl]
        refine yas ?_
        refine ynil' (kthn ?_)
        exact hL1 (k + 1, uu, p + 1) ⟨hnx, by dsimp only; omega, by dsimp only; omega⟩ (by dsimp only; omega) _ _ zsub zge
     ·(try simp only [sH] at h43)
      refine ygz ?_
      refine ygz ?_
      refine ygo ?_
      refine ypb ?_
      refine ypb ?_
      refine ynil' (kthn (hK15 _ _ ?_))
      clear hK15
      refine ccond0 rfl ?_
      refine cskip' (kthn (hK14 _ _ ?_))
      clear hK14
      refine cseq ?_; intro K25 hK25
      refine creg ?_
      have hok : ¬ ((k = 9 ∧ 1 < x.toNat) ∨ (0 < k ∧ x.toNat = 0)) := by omega
      obtain ⟨hf1, hf2⟩ := hi.fit hok
      refine ymv ?_
      refine ymv ?_
      refine y (ev_rem rfl rfl (by decide)) rfl ?_
      rw [show ((x.toNat : Nat) : Int).tmod 128 = ((x.toNat % 128 : Nat) : Int) from rfl]
      refine ymv ?_
      refine y (ev_mul rfl rfl) rfl ?_
      refine y (ev_add rfl rfl) rfl ?_
      rw [fit64 hi hok]
      obtain ⟨uu, huu⟩ : ∃ uu, u + x.toNat % 128 * 2 ^ (7 * k) = uu := ⟨_, rfl⟩
      rw [huu] at hf2 ⊢
      refine yas ?_
      refine ynil' (kthn (hK25 _ _ ?_))
      clear hK25
      refine cseq ?_; intro K26 hK26
      refine creg ?_
      refine ymv ?_
      refine y (ev_mul rfl rfl) rfl ?_
      refine yas ?_
      refine ynil' (kthn (hK26 _ _ ?_))
      clear hK26
      refine cseq ?_; intro K27 hK27
      refine creg ?_
      refine ymv ?_
      refine y (ev_lss rfl rfl) rfl ?_
      refine ynil' (kthn (hK27 _ _ ?_))
      clear hK27
      refine ccond rfl (fun h102 => ?_) (fun h102 => ?_)
      ·(try simp only [sH] at h102)
       refine cseq ?_; intro K28 hK28
       refine cseq ?_; intro K29 hK29
       refine creg ?_
       have hlast := hi.last hok (by omega)
       rw [huu] at hlast
       have hnt : numT bs at0 = (zag uu, ((p + 1 : Nat) : Int), true) := by unfold numT; rw [hlast]; simp only [List.length_drop]; rw [show bs.length - (bs.length - (p + 1)) = p + 1 by omega]
       refine ymv ?_
       refine y (ev_rem rfl rfl (by decide)) rfl ?_
       rw [show ((uu : Nat) : Int).tmod 2 = ((uu % 2 : Nat) : Int) from rfl]
       refine y (ev_eql rfl rfl) rfl ?_
       refine ynil' (kthn (hK29 _ _ ?_))
       clear hK29
       refine ccond rfl (fun h106 => ?_) (fun h106 => ?_)
       ·(try simp only [sH] at h106)
        have hzz := zag_neg (u := uu) (by omega)
        refine cseq ?_; intro K30 hK30
        refine creg ?_
        refine ymv ?_
        refine y (ev_quo rfl rfl (by decide)) rfl ?_
        rw [wu64, show ((uu : Nat) : Int).tdiv 2 = ((uu / 2 : Nat) : Int) from rfl, show ((uu / 2 : Nat) : Int) % 18446744073709551616 = ((uu / 2 : Nat) : Int) by omega]
        refine y (ev_conv rfl Tryz.underlying180 Tryz.underlying2) rfl ?_
        rw [wr (by omega) (by omega)]
        refine y (ev_neg rfl) rfl ?_
        rw [wr (by omega) (by omega)]
        refine y (ev_sub rfl rfl) rfl ?_
        rw [wr (by omega) (by omega), ← hzz]
        refine ymv ?_
        refine yas ?_
        refine yas ?_
        refine yas ?_
        refine ynil' (kthn (hK30 _ _ ?_))
        clear hK30
        refine cret (kthr (kbr (kthr (kthr (kbr (kthr ?_))))))
        first
          | (exfalso; omega; done)
          | (refine kretv3 Tryz.results77 rfl rfl rfl (L1 := [] ++ R) zge ?_
             rw [hnt]; exact ⟨_, ⟨rfl, rfl⟩, rfl⟩)
       ·(try simp only [sH] at h106)
        have hzz := zag_pos (u := uu) (by omega)
        refine cskip' (kthn (hK28 _ _ ?_))
        clear hK28
        refine cseq ?_; intro K31 hK31
        refine creg ?_
        refine ymv ?_
        refine y (ev_quo rfl rfl (by decide)) rfl ?_
        rw [wu64, show ((uu : Nat) : Int).tdiv 2 = ((uu / 2 : Nat) : Int) from rfl, show ((uu / 2 : Nat) : Int) % 18446744073709551616 = ((uu / 2 : Nat) : Int) by omega]
        refine y (ev_conv rfl Tryz.underlying180 Tryz.underlying2) rfl ?_
        rw [wr (by omega) (by omega), ← hzz]
        refine ymv ?_
        refine yas ?_
        refine yas ?_
        refine yas ?_
        refine ynil' (kthn (hK31 _ _ ?_))
        clear hK31
        refine cret (kbr (kthr (kthr (kbr (kthr ?_)))))
        first
          | (exfalso; omega; done)
          | (refine kretv3 Tryz.results77 rfl rfl rfl (L1 := [] ++ R) zge ?_
             rw [hnt]; exact ⟨_, ⟨rfl, rfl⟩, rfl⟩)
      ·(try simp only [sH] at h102)
       have hk8 : k ≤ 8 := by omega
       have hnx := hi.next hok (by omega)
       rw [huu] at hnx
       rw [part_next hk8]
       refine cskip' (kbn (kthn (hK8 _ _ ?_)))
       clear hK8
       refine creg ?_
       refine ymv ?_
       refine y (ev_add rfl rfl) rfl ?_
       rw [show IntKind.i64.wrap ((k:Int) + 1) = ((k+1 : Nat) : Int) by rw [wr (by omega) (by omega)]; rfl]
       refine yas ?_
       refine ynil' (kthn ?_)
       exact hL1 (k + 1, uu, p + 1) ⟨hnx, by dsimp only; omega, by dsimp only; omega⟩ (by dsimp only; omega) _ _ zsub zge
   ·(try simp only [sH] at h30)
    refine ygz ?_
    refine ygz ?_
    refine ypb ?_
    refine ymv ?_
    refine ygo ?_
    refine ymv ?_
    refine ygo ?_
    refine y (ev_gtr rfl rfl) rfl ?_
    refine ygo ?_
    refine ymv ?_
    refine ysplit 35 rfl (fun h131 => ?_) (fun h131 => ?_)
    ·(try simp only [sH] at h131)
     refine ygo ?_
     refine ymv ?_
     refine ygo ?_
     refine y (ev_eql rfl rfl) rfl ?_
     refine ygo ?_
     refine ypa ?_
     refine ypb ?_
     refine ynil' (kthn (hK15 _ _ ?_))
     clear hK15
     refine ccond rfl (fun h136 => ?_) (fun h136 => ?_)
     ·(try simp only [sH] at h136)
      refine cseq ?_; intro K32 hK32
      refine creg ?_
      have hnt : numT bs at0 = (0, 0, false) := by unfold numT; rw [hi.bad (by omega)]
      refine yas ?_
      refine yas ?_
      refine yas ?_
      refine ynil' (kthn (hK32 _ _ ?_))
      clear hK32
      refine cret (kthr (kbr (kthr (kthr (kbr (kthr ?_))))))
      first
        | (exfalso; omega; done)
        | (refine kretv3 Tryz.results77 rfl rfl rfl (L1 := [] ++ R) zge ?_
           rw [hnt]; exact ⟨_, ⟨rfl, rfl⟩, rfl⟩)
     ·(try simp only [sH] at h136)
      refine cskip' (kthn (hK14 _ _ ?_))
      clear hK14
      refine cseq ?_; intro K33 hK33
      refine creg ?_
      have hok : ¬ ((k = 9 ∧ 1 < x.toNat) ∨ (0 < k ∧ x.toNat = 0)) := by omega
      obtain ⟨hf1, hf2⟩ := hi.fit hok
      refine ymv ?_
      refine ymv ?_
      refine y (ev_rem rfl rfl (by decide)) rfl ?_
      rw [show ((x.toNat : Nat) : Int).tmod 128 = ((x.toNat % 128 : Nat) : Int) from rfl]
      refine ymv ?_
      refine y (ev_mul rfl rfl) rfl ?_
      refine y (ev_add rfl rfl) rfl ?_
      rw [fit64 hi hok]
      obtain ⟨uu, huu⟩ : ∃ uu, u + x.toNat % 128 * 2 ^ (7 * k) = uu := ⟨_, rfl⟩
      rw [huu] at hf2 ⊢
      refine yas ?_
      refine ynil' (kthn (hK33 _ _ ?_))
      clear hK33
      refine cseq ?_; intro K34 hK34
      refine creg ?_
      refine ymv ?_
      refine y (ev_mul rfl rfl) rfl ?_
      refine yas ?_
      refine ynil' (kthn (hK34 _ _ ?_))
      clear hK34
      refine cseq ?_; intro K35 hK35
      refine creg ?_
      refine ymv ?_
      refine y (ev_lss rfl rfl) rfl ?_
      refine ynil' (kthn (hK35 _ _ ?_))
      clear hK35
      refine ccond rfl (fun h152 => ?_) (fun h152 => ?_)
      ·(try simp only [sH] at h152)
       refine cseq ?_; intro K36 hK36
       refine cseq ?_; intro K37 hK37
       refine creg ?_
       have hlast := hi.last hok (by omega)
       rw [huu] at hlast
       have hnt : numT bs at0 = (zag uu, ((p + 1 : Nat) : Int), true) := by unfold numT; rw [hlast]; simp only [List.length_drop]; rw [show bs.length - (bs.length - (p + 1)) = p + 1 by omega]
       refine ymv ?_
       refine y (ev_rem rfl rfl (by decide)) rfl ?_
       rw [show ((uu : Nat) : Int).tmod 2 = ((uu % 2 : Nat) : Int) from rfl]
       refine y (ev_eql rfl rfl) rfl ?_
       refine ynil' (kthn (hK37 _ _ ?_))
       clear hK37
       refine ccond rfl (fun h156 => ?_) (fun h156 => ?_)
       ·(try simp only [sH] at h156)
        have hzz := zag_neg (u := uu) (by omega)
        refine cseq ?_; intro K38 hK38
        refine creg ?_
        refine ymv ?_
        refine y (ev_quo rfl rfl (by decide)) rfl ?_
        rw [wu64, show ((uu : Nat) : Int).tdiv 2 = ((uu / 2 : Nat) : Int) from rfl, show ((uu / 2 : Nat) : Int) % 18446744073709551616 = ((uu / 2 : Nat) : Int) by omega]
        refine y (ev_conv rfl Tryz.underlying180 Tryz.underlying2) rfl ?_
        rw [wr (by omega) (by omega)]
        refine y (ev_neg rfl) rfl ?_
        rw [wr (by omega) (by omega)]
        refine y (ev_sub rfl rfl) rfl ?_
        rw [wr (by omega) (by omega), ← hzz]
        refine ymv ?_
        refine yas ?_
        refine yas ?_
        refine yas ?_
        refine ynil' (kthn (hK38 _ _ ?_))
        clear hK38
        refine cret (kthr (kbr (kthr (kthr (kbr (kthr ?_))))))
        first
          | (exfalso; omega; done)
          | (refine kretv3 Tryz.results77 rfl rfl rfl (L1 := [] ++ R) zge ?_
             rw [hnt]; exact ⟨_, ⟨rfl, rfl⟩, rfl⟩)
       ·(try simp only [sH] at h156)
        have hzz := zag_pos (u := uu) (by omega)
        refine cskip' (kthn (hK36 _ _ ?_))
        clear hK36
        refine cseq ?_; intro K39 hK39
        refine creg ?_
        refine ymv ?_
        refine y (ev_quo rfl rfl (by decide)) rfl ?_
        rw [wu64, show ((uu : Nat) : Int).tdiv 2 = ((uu / 2 : Nat) : Int) from rfl, show ((uu / 2 : Nat) : Int) % 18446744073709551616 = ((uu / 2 : Nat) : Int) by omega]
        refine y (ev_conv rfl Tryz.underlying180 Tryz.underlying2) rfl ?_
        rw [wr (by omega) (by omega), ← hzz]
        refine ymv ?_
        refine yas ?_
        refine yas ?_
        refine yas ?_
        refine ynil' (kthn (hK39 _ _ ?_))
        clear hK39
        refine cret (kbr (kthr (kthr (kbr (kthr ?_)))))
        first
          | (exfalso; omega; done)
          | (refine kretv3 Tryz.results77 rfl rfl rfl (L1 := [] ++ R) zge ?_
             rw [hnt]; exact ⟨_, ⟨rfl, rfl⟩, rfl⟩)
      ·(try simp only [sH] at h152)
       have hk8 : k ≤ 8 := by omega
       have hnx := hi.next hok (by omega)
       rw [huu] at hnx
       rw [part_next hk8]
       refine cskip' (kbn (kthn (hK8 _ _ ?_)))
       clear hK8
       refine creg ?_
       refine ymv ?_
       refine y (ev_add rfl rfl) rfl ?_
       rw [show IntKind.i64.wrap ((k:Int) + 1) = ((k+1 : Nat) : Int) by rw [wr (by omega) (by omega)]; rfl]
       refine yas ?_
       refine ynil' (kthn ?_)
       exact hL1 (k + 1, uu, p + 1) ⟨hnx, by dsimp only; omega, by dsimp only; omega⟩ (by dsimp only; omega) _ _ zsub zge
    ·(try simp only [sH] at h131)
     refine ygz ?_
     refine ygz ?_
     refine ygo ?_
     refine ypb ?_
     refine ypb ?_
     refine ynil' (kthn (hK15 _ _ ?_))
     clear hK15
     refine ccond0 rfl ?_
     refine cskip' (kthn (hK14 _ _ ?_))
     clear hK14
     refine cseq ?_; intro K40 hK40
     refine creg ?_
     have hok : ¬ ((k = 9 ∧ 1 < x.toNat) ∨ (0 < k ∧ x.toNat = 0)) := by omega
     obtain ⟨hf1, hf2⟩ := hi.fit hok
     refine ymv ?_
     refine ymv ?_
     refine y (ev_rem rfl rfl (by decide)) rfl ?_
     rw [show ((x.toNat : Nat) : Int).tmod 128 = ((x.toNat % 128 : Nat) : Int) from rfl]
     refine ymv ?_
     refine y (ev_mul rfl rfl) rfl ?_
     refine y (ev_add rfl rfl) rfl ?_
     rw [fit64 hi hok]
     obtain ⟨uu, huu⟩ : ∃ uu, u + x.toNat % 128 * 2 ^ (7 * k) = uu := ⟨_, rfl⟩
     rw [huu] at hf2 ⊢
     refine yas ?_
     refine ynil' (kthn (hK40 _ _ ?_))
     clear hK40
     refine cseq ?_; intro K41 hK41
     refine creg ?_
     refine ymv ?_
     refine y (ev_mul rfl rfl) rfl ?_
     refine yas ?_
     refine ynil' (kthn (hK41 _ _ ?_))
     clear hK41
     refine cseq ?_; intro K42 hK42
     refine creg ?_
     refine ymv ?_
     refine y (ev_lss rfl rfl) rfl ?_
     refine ynil' (kthn (hK42 _ _ ?_))
     clear hK42
     refine ccond rfl (fun h190 => ?_) (fun h190 => ?_)
     ·(try simp only [sH] at h190)
      refine cseq ?_; intro K43 hK43
      refine cseq ?_; intro K44 hK44
      refine creg ?_
      have hlast := hi.last hok (by omega)
      rw [huu] at hlast
      have hnt : numT bs at0 = (zag uu, ((p + 1 : Nat) : Int), true) := by unfold numT; rw [hlast]; simp only [List.length_drop]; rw [show bs.length - (bs.length - (p + 1)) = p + 1 by omega]
      refine ymv ?_
      refine y (ev_rem rfl rfl (by decide)) rfl ?_
      rw [show ((uu : Nat) : Int).tmod 2 = ((uu % 2 : Nat) : Int) from rfl]
      refine y (ev_eql rfl rfl) rfl ?_
      refine ynil' (kthn (hK44 _ _ ?_))
      clear hK44
      refine ccond rfl (fun h194 => ?_) (fun h194 => ?_)
      ·(try simp only [sH] at h194)
       have hzz := zag_neg (u := uu) (by omega)
       refine cseq ?_; intro K45 hK45
       refine creg ?_
       refine ymv ?_
       refine y (ev_quo rfl rfl (by decide)) rfl ?_
       rw [wu64, show ((uu : Nat) : Int).tdiv 2 = ((uu / 2 : Nat) : Int) from rfl, show ((uu / 2 : Nat) : Int) % 18446744073709551616 = ((uu / 2 : Nat) : Int) by omega]
       refine y (ev_conv rfl Tryz.underlying180 Tryz.underlying2) rfl ?_
       rw [wr (by omega) (by omega)]
       refine y (ev_neg rfl) rfl ?_
       rw [wr (by omega) (by omega)]
       refine y (ev_sub rfl rfl) rfl ?_
       rw [wr (by omega) (by omega), ← hzz]
       refine ymv ?_
       refine yas ?_
       refine yas ?_
       refine yas ?_
       refine ynil' (kthn (hK45 _ _ ?_))
       clear hK45
       refine cret (kthr (kbr (kthr (kthr (kbr (kthr ?_))))))
       first
         | (exfalso; omega; done)
         | (refine kretv3 Tryz.results77 rfl rfl rfl (L1 := [] ++ R) zge ?_
            rw [hnt]; exact ⟨_, ⟨rfl, rfl⟩, rfl⟩)
      ·(try simp only [sH] at h194)
       have hzz := zag_pos (u := uu) (by omega)
       refine cskip' (kthn (hK43 _ _ ?_))
       clear hK43
       refine cseq ?_; intro K46 hK46
       refine creg ?_
       refine ymv ?_
       refine y (ev_quo rfl rfl (by decide)) rfl ?_
       rw [wu64, show ((uu : Nat) : Int).tdiv 2 = ((uu / 2 : Nat) : Int) from rfl, show ((uu / 2 : Nat) : Int) % 18446744073709551616 = ((uu / 2 : Nat) : Int) by omega]
       refine y (ev_conv rfl Tryz.underlying180 Tryz.underlying2) rfl ?_
       rw [wr (by omega) (by omega), ← hzz]
       refine ymv ?_
       refine yas ?_
       refine yas ?_
       refine yas ?_
       refine ynil' (kthn (hK46 _ _ ?_))
       clear hK46
       refine cret (kbr (kthr (kthr (kbr (kthr ?_)))))
       first
         | (exfalso; omega; done)
         | (refine kretv3 Tryz.results77 rfl rfl rfl (L1 := [] ++ R) zge ?_
            rw [hnt]; exact ⟨_, ⟨rfl, rfl⟩, rfl⟩)
     ·(try simp only [sH] at h190)
      have hk8 : k ≤ 8 := by omega
      have hnx := hi.next hok (by omega)
      rw [huu] at hnx
      rw [part_next hk8]
      refine cskip' (kbn (kthn (hK8 _ _ ?_)))
      clear hK8
      refine creg ?_
      refine ymv ?_
      refine y (ev_add rfl rfl) rfl ?_
      rw [show IntKind.i64.wrap ((k:Int) + 1) = ((k+1 : Nat) : Int) by rw [wr (by omega) (by omega)]; rfl]
      refine yas ?_
      refine ynil' (kthn ?_)
      exact hL1 (k + 1, uu, p + 1) ⟨hnx, by dsimp only; omega, by dsimp only; omega⟩ (by dsimp only; omega) _ _ zsub zge
 ·(try simp only [sH] at h9)
  exfalso; omega
end W
end Go.Proofs
