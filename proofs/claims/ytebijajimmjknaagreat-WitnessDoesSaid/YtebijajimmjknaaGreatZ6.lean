/- A part of the proof: contracts and plain lemmas, each without conditions beyond those that it names. -/
import Derived.Test.YtebijajimmjknaaGreatZ5
set_option linter.unusedVariables false
set_option linter.unusedSimpArgs false
set_option linter.constructorNameAsVariable false
namespace Go.Proofs
open Go Go.Sl
namespace W
set_option linter.unusedVariables false
set_option maxHeartbeats 4000000 in
theorem lawWDoes [Env] {R : List Seg} {n a b wait : Int} {lv : Value} {acts : List ActW} (hl : RdV R lv acts.length (actwsV acts)) (haa : ∀ a ∈ acts, a.ok R) :
    Con Tryz.prog 3 [i64 n, i64 a, i64 b, i64 wait, lv] [] R (Is (.bool true) []) := by
  have hvl := hl.lenVal
  refine con_enter Tryz.func3 Tryz.ntmps3 rfl rfl ?_
  refine cseq ?_; intro K1 hK1
  refine creg ?_
  refine y (ev_assign rfl) rfl ?_
  refine ynil' (kthn (hK1 _ _ ?_))
  clear hK1
  refine cseq ?_; intro K2 hK2
  refine cseq ?_; intro K3 hK3
  refine creg ?_
  refine ycall (awake14) rfl Tryz.call5 ztk rfl ?_
  rintro v L' ⟨rfl, rfl⟩
  skip
  ·skip
   refine y (ev_not rfl) rfl ?_
   refine ynil' (kthn (hK3 _ _ ?_))
   clear hK3
   refine ccond0 rfl ?_
   refine cskip' (kthn (hK2 _ _ ?_))
   clear hK2
   refine cseq ?_; intro K4 hK4
   refine creg ?_
   refine y (ev_move rfl) rfl ?_
   by_cases hn : 0 ≤ n ∧ n ≤ 512
   ·skip
    first | (refine ycall (secNewZ hn) rfl Tryz.call6 ztk rfl ?_; rintro v L' ⟨q32, rfl, rfl⟩) | (refine ycall (secNewNil (by omega)) rfl Tryz.call6 ztk rfl ?_; rintro v L' ⟨rfl, rfl⟩)
    refine y (ev_assign rfl) rfl ?_
    refine ynil' (kthn (hK4 _ _ ?_))
    clear hK4
    refine cseq ?_; intro K5 hK5
    refine creg ?_
    refine y (ev_move rfl) rfl ?_
    first | (refine ycall (rdNewZ hn) rfl Tryz.call7 ztk rfl ?_; rintro v L' ⟨p34, la34, rfl, rfl⟩) | (refine ycall (refNewNil (by omega)) rfl Tryz.call7 ztk rfl ?_; rintro v L' ⟨rfl, rfl⟩)
    refine y (ev_assign rfl) rfl ?_
    refine ynil' (kthn (hK5 _ _ ?_))
    clear hK5
    refine cseq ?_; intro K6 hK6
    refine cseq ?_; intro K7 hK7
    refine creg ?_
    refine y (ev_move rfl) rfl ?_
    refine y (ev_eqlPnil rfl rfl Tryz.underlying24) rfl ?_
    refine y (ev_move rfl) rfl ?_
    refine yg1 rfl rfl ?_
    refine y (ev_move rfl) rfl ?_
    refine yg1 rfl rfl ?_
    refine y (ev_eqlPnil rfl rfl Tryz.underlying26) rfl ?_
    refine y (ev_pick0 rfl rfl) rfl ?_
    refine ynil' (kthn (hK7 _ _ ?_))
    clear hK7
    refine ccond0 rfl ?_
    refine cskip' (kthn (hK6 _ _ ?_))
    clear hK6
    refine cseq ?_; intro K8 hK8
    refine creg ?_
    have hR0 : Rel (Dev.new n.toNat) (RDev.new n.toNat) := Rel.new (by omega)
    have hl0 : (Dev.new n.toNat).l.length = n.toNat := by simp [Dev.new]
    generalize Dev.new n.toNat = D0 at *
    generalize RDev.new n.toNat = E0 at *
    refine y (ev_move rfl) rfl ?_
    refine y (ev_move rfl) rfl ?_
    refine y (ev_move rfl) rfl ?_
    refine y (ev_move rfl) rfl ?_
    by_cases ho : witE D0 a b wait = 0
    ·skip
     first | (refine ycall (wOpenOkZ hR0.ok ho) rfl Tryz.call8 ztk rfl ?_; rintro v L' ⟨s52, c52, rfl, rfl⟩) | (refine ycall (wOpenBad hR0.ok rfl ho) rfl Tryz.call8 ztk rfl ?_; rintro v L' ⟨rfl, rfl⟩)
     refine y (ev_move rfl) rfl ?_
     refine y (ev_extract rfl rfl) rfl ?_
     refine y (ev_extract rfl rfl) rfl ?_
     refine y (ev_assign rfl) rfl ?_
     refine y (ev_assign rfl) rfl ?_
     refine ynil' (kthn (hK8 _ _ ?_))
     clear hK8
     refine cseq ?_; intro K9 hK9
     refine creg ?_
     refine y (ev_move rfl) rfl ?_
     refine y (ev_move rfl) rfl ?_
     refine y (ev_move rfl) rfl ?_
     refine y (ev_move rfl) rfl ?_
     first | (refine ycall (xOpenOk hR0 ho) rfl Tryz.call9 ztk rfl ?_; rintro v L' ⟨s60, c60, b60, rfl, rfl⟩; have hS0 := WdM.ok.of (z := ((s52, c52), (s60, c60, b60), witO D0 a b wait)) hR0 hl0 (witO_ok hR0.ok ho); let t0 : TwW := some ((s52, c52), (s60, c60, b60), witO D0 a b wait)) | (refine ycall (xOpenBad hR0 ho) rfl Tryz.call9 ztk rfl ?_; rintro v L' ⟨rfl, rfl⟩; have hS0 := WdM.ok.none' hR0 hl0; let t0 : TwW := none)
     refine y (ev_move rfl) rfl ?_
     refine y (ev_extract rfl rfl) rfl ?_
     refine y (ev_extract rfl rfl) rfl ?_
     refine y (ev_assign rfl) rfl ?_
     refine y (ev_assign rfl) rfl ?_
     refine ynil' (kthn (hK9 _ _ ?_))
     clear hK9
     refine cseq ?_; intro K10 hK10
     have hJr11 : ∀ x : TwW, (WdM.ok ⟨D0, E0, x⟩ n.toNat) → Sk 270 K10 ([(15, twV2 x), (13, twV1 x), (12, ptr p34), (11, dp q32), (0, i64 n), (1, i64 a), (2, i64 b), (3, i64 wait), (4, lv)]) ([twA x, twB q32 x, twC x, twL x, twD p34 x, dev q32 D0, rdev p34 la34 E0] ++ R) := by
      rintro t0 hIr11
      refine hK10 _ _ ?_
      have hS0 := hIr11
      refine cseq ?_; intro K11 hK11
      refine cseq ?_; intro K12 hK12
      refine creg ?_
      refine y (ev_assign rfl) rfl ?_
      refine ynil' (kthn (hK12 _ _ ?_))
      clear hK12
      have hJ1 : ∀ x : Nat × WdM, ((x.2.ok n.toNat ∧ x.1 ≤ acts.length ∧ x.1 ≤ 100) ∧ (True)) → Sk 270 K11 ([(17, i64 x.1), (15, twV2 x.2.t), (13, twV1 x.2.t), (12, ptr p34), (11, dp q32), (0, i64 n), (1, i64 a), (2, i64 b), (3, i64 wait), (4, lv)]) ([twA x.2.t, twB q32 x.2.t, twC x.2.t, twL x.2.t, twD p34 x.2.t, dev q32 x.2.D, rdev p34 la34 x.2.E] ++ R) := by
       rintro ⟨z, D, E, t⟩ ⟨hI1, hX1⟩
       refine hK11 _ _ ?_
       obtain ⟨hS, hz1, hz2⟩ := hI1; dsimp only at hS hz1 hz2 ⊢
       refine cseq ?_; intro K13 hK13
       refine creg ?_
       refine y (ev_assign rfl) rfl ?_
       refine ynil' (kthn (hK13 _ _ ?_))
       clear hK13
       refine cret ?_
       first
         | (exfalso; omega; done)
         | (refine kretv Tryz.results3 rfl (L1 := R) zge ?_
            exact ⟨_, ⟨by first | rfl | (exfalso; simp_all; done), rfl⟩, by first | rfl | (exfalso; simp_all; done)⟩)
      clear hK11
      refine cblock ?_
      refine cloop (A := Nat × WdM) (fun x => [(17, i64 x.1), (15, twV2 x.2.t), (13, twV1 x.2.t), (12, ptr p34), (11, dp q32), (0, i64 n), (1, i64 a), (2, i64 b), (3, i64 wait), (4, lv)]) (fun x => [twA x.2.t, twB q32 x.2.t, twC x.2.t, twL x.2.t, twD p34 x.2.t, dev q32 x.2.D, rdev p34 la34 x.2.E] ++ R) (fun x => x.2.ok n.toNat ∧ x.1 ≤ acts.length ∧ x.1 ≤ 100) (fun x => acts.length - x.1) ((0, ⟨D0, E0, t0⟩)) ?_ zsub zge ?_
      · exact ⟨hS0, Nat.zero_le _, Nat.zero_le _⟩
      rintro ⟨z, D, E, t⟩ hI1 KL1 hL1
      have hI1o := hI1
      obtain ⟨hS, hz1, hz2⟩ := hI1; dsimp only at hS hz1 hz2 ⊢
      refine cseq ?_; intro K14 hK14
      refine cseq ?_; intro K15 hK15
      refine creg ?_
      refine y (ev_move rfl) rfl ?_
      refine y (ev_move rfl) rfl ?_
      first
        | refine y (ev_len rfl Tryz.underlying22) rfl ?_
        | refine y (ev_lenSv rfl Tryz.underlying22 (by assumption)) rfl ?_
        | refine y (ev_lenV rfl Tryz.underlying22 (RdV.lenVal (by assumption))) rfl ?_
        | refine y (ev_lenV rfl Tryz.underlying22 (RdB.lenVal (by assumption))) rfl ?_
      refine y (ev_lss rfl rfl) rfl ?_
      refine y (ev_move rfl) rfl ?_
      refine ysplit 77 rfl (fun h43 => ?_) (fun h43 => ?_)
      ·(try simp only [sH] at h43)
       refine yg1 rfl rfl ?_
       refine y (ev_move rfl) rfl ?_
       refine yg1 rfl rfl ?_
       refine y (ev_lss rfl rfl) rfl ?_
       refine y (ev_pick1 rfl rfl) rfl ?_
       refine ynil' (kthn (hK15 _ _ ?_))
       clear hK15
       refine ccond rfl (fun h47 => ?_) (fun h47 => ?_)
       ·(try simp only [sH] at h47)
        obtain ⟨yy, hy⟩ : ∃ yy, acts[z]? = some yy := ⟨_, List.getElem?_eq_getElem (by omega)⟩
        have hact := haa yy (List.mem_of_getElem? hy)
        refine cskip' (kthn (hK14 _ _ ?_))
        clear hK14
        refine cseq ?_; intro K16 hK16
        refine cblock ?_
        refine cseq ?_; intro K17 hK17
        refine creg ?_
        refine y (ev_move rfl) rfl ?_
        refine y (ev_move rfl) rfl ?_
        first
          | refine y (ev_ixAddr rfl rfl Tryz.underlying22 Tryz.sizeOf40 (by omega) (by omega)) rfl ?_
          | refine y (ev_ixV (by assumption) rfl rfl Tryz.underlying22 Tryz.sizeOf40 (by omega) (by omega)) rfl ?_
        refine y (ev_loadNV (us := yy.cells) (z * 18) hl zge rfl Tryz.isAgg40 Tryz.sizeOf40 (by simp) (actwsV_get hy) rfl) rfl ?_
        refine ya (ac_alloc Tryz.zeroValue40 rfl) rfl ?_
        rintro v L' ⟨b18, rfl, rfl⟩
        refine ya0 (ac_storeN rfl rfl hact.one Tryz.sizeOf40 zrp rfl (by simp [ActW.cells, MsgM.cells]) rfl) ?_
        rintro v L' ⟨rfl, rfl⟩
        refine ynil' (kthn (hK17 _ _ ?_))
        clear hK17
        refine cseq ?_; intro K18 hK18
        refine cseq ?_; intro K19 hK19
        refine creg ?_
        refine y (ev_loadN (u := yy.cells) rfl Tryz.isAgg40 Tryz.sizeOf40 zin rfl rfl) rfl ?_
        refine ycall (xLarge ?lx55) rfl Tryz.call10 ztk rfl ?_
        case lx55 => exact hact.mono zge
        rintro v L' ⟨big88, rfl, hbig88, rfl⟩
        refine ynil' (kthn (hK19 _ _ ?_))
        clear hK19
        refine ccond rfl (fun h56 => ?_) (fun h56 => ?_)
        ·(try simp only [sH] at h56)
         refine cseq ?_; intro K20 hK20
         refine creg ?_
         refine y (ev_assign rfl) rfl ?_
         refine ynil' (kthn (hK20 _ _ ?_))
         clear hK20
         refine cret (kthr (kbr (kthr (kthr (kbr (kthr ?_))))))
         first
           | (exfalso; omega; done)
           | (refine kretv Tryz.results3 rfl (L1 := R) zge ?_
              exact ⟨_, ⟨by first | rfl | (exfalso; simp_all; done), rfl⟩, by first | rfl | (exfalso; simp_all; done)⟩)
        ·(try simp only [sH] at h56)
         have hlg := hbig88 h56
         refine cskip' (kthn (hK18 _ _ ?_))
         clear hK18
         refine cseq ?_; intro K21 hK21
         have hJr43 : ∀ x : WdM, (x.ok n.toNat) → Sk 270 K21 ([(17, i64 z), (15, twV2 x.t), (13, twV1 x.t), (12, ptr p34), (11, dp q32), (0, i64 n), (1, i64 a), (2, i64 b), (3, i64 wait), (4, lv)]) ([twA x.t, twB q32 x.t, twC x.t, twL x.t, twD p34 x.t, dev q32 x.D, rdev p34 la34 x.E] ++ R) := by
          rintro ⟨D, E, t⟩ hIr43
          refine hK21 _ _ ?_
          clear hS; have hS := hIr43; dsimp only at hS ⊢
          refine cseq ?_; intro K22 hK22
          refine cseq ?_; intro K23 hK23
          refine cdraw 37 [(0, true), (1, true), (2, true), (3, true), (5, true), (6, true), (7, true), (8, true), (4, false), (9, true), (10, true), (11, true), (13, true), (14, true), (15, true), (16, true), (12, false), (17, true), (18, true), (19, true), (20, true), (22, true), (23, true), (24, true), (25, true), (21, false), (26, true), (27, true), (28, true), (29, true), (31, true), (32, true), (33, true), (34, true), (30, false), (35, true), (36, true)] (_) Tryz.mixed (by kernel_rfl) .refl ?_
          rcases t with _ | ⟨⟨s1, c1⟩, ⟨s2, c2, lb⟩, W⟩
          ·skip
           refine hr rfl (ev_move rfl) rfl ?_
           refine hr rfl (ev_neqPnil rfl rfl Tryz.underlying28) rfl ?_
           first | (let tt : TwW := some ((s1, c1), (s2, c2, lb), W); have hSl : W.ok D := hS.l) | (let tt : TwW := none)
           refine hr rfl (ev_move rfl) rfl ?_
           refine hr0 rfl rfl rfl rfl rfl ?_
           refine hr0 rfl rfl rfl rfl rfl ?_
           refine hr0 rfl rfl rfl rfl rfl ?_
           refine hr0 rfl rfl rfl rfl rfl ?_
           refine hr0 rfl rfl rfl rfl rfl ?_
           refine ha0 rfl rfl rfl rfl rfl zge ?_
           refine hr0 rfl rfl rfl rfl rfl ?_
           refine hr0 rfl rfl rfl rfl rfl ?_
           refine hr0u rfl rfl rfl rfl ?_
           refine hr0u rfl rfl rfl rfl ?_
           refine hr0u rfl rfl rfl rfl ?_
           refine hr0u rfl rfl rfl rfl ?_
           refine hr0u rfl rfl rfl rfl ?_
           refine ha0u rfl rfl rfl rfl zge ?_
           refine hr0u rfl rfl rfl rfl ?_
           refine hr0 rfl rfl rfl rfl rfl ?_
           refine hr0 rfl rfl rfl rfl rfl ?_
           refine hr0u rfl rfl rfl rfl ?_
           refine hr0u rfl rfl rfl rfl ?_
           refine hr0u rfl rfl rfl rfl ?_
           refine hr0u rfl rfl rfl rfl ?_
           refine hr0u rfl rfl rfl rfl ?_
           refine ha0u rfl rfl rfl rfl zge ?_
           refine hr0u rfl rfl rfl rfl ?_
           refine hr0 rfl rfl rfl rfl rfl ?_
           refine hr0 rfl rfl rfl rfl rfl ?_
           refine hr0u rfl rfl rfl rfl ?_
           refine hr0u rfl rfl rfl rfl ?_
           refine hr0u rfl rfl rfl rfl ?_
           refine hr0u rfl rfl rfl rfl ?_
           refine hr0u rfl rfl rfl rfl ?_
           refine ha0u rfl rfl rfl rfl zge ?_
           refine hr0u rfl rfl rfl rfl ?_
           refine hr0 rfl rfl rfl rfl rfl ?_
           refine hnil ?_
           refine y (ev_pick0 rfl rfl) rfl ?_
           refine hnoP' (kthn (hK23 _ _ ?_))
           clear hK23
           refine ccond0 rfl ?_
           refine cskip' (kthn (hK22 _ _ ?_))
           clear hK22
           refine cseq ?_; intro K24 hK24
           refine creg ?_
           refine y (ev_assign rfl) rfl ?_
           refine ynil' (kthn (hK24 _ _ ?_))
           clear hK24
           refine cblock ?_
           refine cloop (A := Nat) (fun x => [(24, i64 x), (17, i64 z), (15, twV2 tt), (13, twV1 tt), (12, ptr p34), (11, dp q32), (0, i64 n), (1, i64 a), (2, i64 b), (3, i64 wait), (4, lv)]) (fun x => [twA tt, twB q32 tt, twC tt, twL tt, twD p34 tt, dev q32 D, rdev p34 la34 E] ++ R) (fun x => x ≤ 6) (fun x => 6 - x) (0) ?_ zsub zge ?_
           · exact Nat.zero_le _
           rintro s hI3 KL3 hL3
           have hs6 := hI3
           refine cseq ?_; intro K25 hK25
           refine cseq ?_; intro K26 hK26
           refine creg ?_
           refine y (ev_move rfl) rfl ?_
           refine y (ev_move rfl) rfl ?_
           refine y (ev_lss rfl rfl) rfl ?_
           refine y (ev_move rfl) rfl ?_
           refine ysplit 242 rfl (fun h67 => ?_) (fun h67 => ?_)
           ·(try simp only [sH] at h67)
            refine yg1 rfl rfl ?_
            refine y (ev_move rfl) rfl ?_
            refine yg1 rfl rfl ?_
            refine y (ev_lss rfl rfl) rfl ?_
            refine y (ev_pick1 rfl rfl) rfl ?_
            refine ynil' (kthn (hK26 _ _ ?_))
            clear hK26
            refine ccond rfl (fun h71 => ?_) (fun h71 => ?_)
            ·(try simp only [sH] at h71)
             refine cskip' (kthn (hK25 _ _ ?_))
             clear hK25
             refine cseq ?_; intro K27 hK27
             refine cblock ?_
             refine cseq ?_; intro K28 hK28
             refine creg ?_
             refine y (ev_move rfl) rfl ?_
             refine y (ev_move rfl) rfl ?_
             refine ycall (secReadU hS.r.ok) rfl Tryz.call26 ztk rfl ?_
             rintro v L' ⟨s251, rfl, ok251, rfl⟩
             refine y (ev_move rfl) rfl ?_
             refine y (ev_extract rfl rfl) rfl ?_
             refine y (ev_extract rfl rfl) rfl ?_
             refine y (ev_assign rfl) rfl ?_
             refine y (ev_assign rfl) rfl ?_
             refine ynil' (kthn (hK28 _ _ ?_))
             clear hK28
             refine cseq ?_; intro K29 hK29
             refine creg ?_
             refine y (ev_move rfl) rfl ?_
             refine y (ev_move rfl) rfl ?_
             refine ycall (rdReadU hS.r.rok (fun h => by rw [← hS.r.has] at h; obtain ⟨-, q0, q1⟩ := has_zero h; rw [← hS.r.sec q0 q1]; exact sec_length hS.r.ok _)) rfl Tryz.call27 ztk rfl ?_
             rintro v L' ⟨s257, rfl, ok257, rfl⟩
             rw [← hS.r.rdB, ← hS.r.has] at *
             have hb251 : RdB [svSeg s251 5 (bytesV (D.rdB s))] (svVal s251 (D.rdB s).length) (D.rdB s) := rdB_sv .z ok251
             have hb257 : RdB [svSeg s257 5 (bytesV (D.rdB s))] (svVal s257 (D.rdB s).length) (D.rdB s) := rdB_sv .z ok257
             generalize D.rdB s = bs at *
             refine y (ev_move rfl) rfl ?_
             refine y (ev_extract rfl rfl) rfl ?_
             refine y (ev_extract rfl rfl) rfl ?_
             refine y (ev_assign rfl) rfl ?_
             refine y (ev_assign rfl) rfl ?_
             refine ynil' (kthn (hK29 _ _ ?_))
             clear hK29
             refine cseq ?_; intro K30 hK30
             refine creg ?_
             skip
             ·skip
              refine y (ev_move rfl) rfl ?_
              refine y (ev_toStrB hb251 zge rfl Tryz.underlying50 Tryz.underlying9 Tryz.underlying5) rfl ?_
              refine y (ev_move rfl) rfl ?_
              refine y (ev_toStrB hb257 zge rfl Tryz.underlying50 Tryz.underlying9 Tryz.underlying5) rfl ?_
              first
                | refine y (ev_neqL rfl rfl) rfl ?_
                | refine y (ev_neqS rfl rfl) rfl ?_
              rw [show decide (bs ≠ bs) = false by simp]
              refine y (ev_move rfl) rfl ?_
              refine yg1 rfl rfl ?_
              refine y (ev_move rfl) rfl ?_
              refine yg1 rfl rfl ?_
              refine y (ev_move rfl) rfl ?_
              refine yg1 rfl rfl ?_
              refine y (ev_neq rfl rfl) rfl ?_
              rw [show (!decide (D.has s = D.has s)) = false by simp]
              refine y (ev_pick0 rfl rfl) rfl ?_
              refine ynil' (kthn (hK30 _ _ ?_))
              clear hK30
              refine ccond0 rfl ?_
              refine cskip' (kbn (kthn (hK27 _ _ ?_)))
              clear hK27
              refine creg ?_
              refine y (ev_move rfl) rfl ?_
              refine y (ev_add rfl rfl) rfl ?_
              rw [show IntKind.i64.wrap ((s:Int) + 1) = ((s+1 : Nat) : Int) by rw [wr (by omega) (by omega)]; rfl]
              refine y (ev_assign rfl) rfl ?_
              refine ynil' (kthn ?_)
              exact hL3 (s + 1) (by first | omega | (dsimp only; omega)) (by omega) _ _ zsub zge
            ·(try simp only [sH] at h71)
             refine cexit (kthx (kthx (kbx (kbn (kthn (hK16 _ _ ?_))))))
             clear hK16
             refine creg ?_
             refine y (ev_move rfl) rfl ?_
             refine y (ev_add rfl rfl) rfl ?_
             rw [show IntKind.i64.wrap ((z:Int) + 1) = ((z+1 : Nat) : Int) by rw [wr (by omega) (by omega)]; rfl]
             refine y (ev_assign rfl) rfl ?_
             refine ynil' (kthn ?_)
             first | exact hL1 (z + 1, ⟨D, E, tt⟩) ⟨hS, by dsimp only; omega, by dsimp only; omega⟩ (by dsimp only; omega) _ _ zsub zge | exact hL1 (z + 1, ⟨D, E, none⟩) ⟨hS, by dsimp only; omega, by dsimp only; omega⟩ (by dsimp only; omega) _ _ zsub zge
           ·(try simp only [sH] at h67)
            refine yg0 rfl rfl rfl rfl ?_
            refine yg0 rfl rfl rfl rfl ?_
            refine y (ev_pick0 rfl rfl) rfl ?_
            refine ynil' (kthn (hK26 _ _ ?_))
            clear hK26
            refine ccond0 rfl ?_
            refine cexit (kthx (kthx (kbx (kbn (kthn (hK16 _ _ ?_))))))
            clear hK16
            refine creg ?_
            refine y (ev_move rfl) rfl ?_
            refine y (ev_add rfl rfl) rfl ?_
            rw [show IntKind.i64.wrap ((z:Int) + 1) = ((z+1 : Nat) : Int) by rw [wr (by omega) (by omega)]; rfl]
            refine y (ev_assign rfl) rfl ?_
            refine ynil' (kthn ?_)
            first | exact hL1 (z + 1, ⟨D, E, tt⟩) ⟨hS, by dsimp only; omega, by dsimp only; omega⟩ (by dsimp only; omega) _ _ zsub zge | exact hL1 (z + 1, ⟨D, E, none⟩) ⟨hS, by dsimp only; omega, by dsimp only; omega⟩ (by dsimp only; omega) _ _ zsub zge
          ·skip
           refine hr rfl (ev_move rfl) rfl ?_
           refine hr rfl (ev_neqPnil rfl rfl Tryz.underlying28) rfl ?_
           first | (let tt : TwW := some ((s1, c1), (s2, c2, lb), W); have hSl : W.ok D := hS.l) | (let tt : TwW := none)
           refine hr rfl (ev_move rfl) rfl ?_
           refine hr1 rfl rfl rfl (ev_move rfl) rfl ?_
           refine hr1 rfl rfl rfl (ev_move rfl) rfl ?_
           refine hr1 rfl rfl rfl (ev_nil rfl) rfl ?_
           refine hr1 rfl rfl rfl (ev_fieldAddr 1 rfl Tryz.underlying55 rfl Tryz.sizeOf2) rfl ?_
           refine hr1 rfl rfl rfl (ev_load rfl Tryz.isAgg2 zin rfl) rfl ?_
           refine hcall1 rfl rfl rfl (wEpoch) rfl Tryz.call22 ztk rfl ?_
           rintro v L' ⟨rfl, rfl⟩; refine ⟨zge, ?_⟩
           refine hr1 rfl rfl rfl (ev_neq rfl rfl) rfl ?_
           rw [show (!decide (W.f.epoch = W.f.epoch)) = false by simp]
           refine hr1 rfl rfl rfl (ev_move rfl) rfl ?_
           refine hr1 rfl rfl rfl (ev_move rfl) rfl ?_
           refine hr1 rfl rfl rfl (ev_move rfl) rfl ?_
           refine hr1 rfl rfl rfl (ev_nil rfl) rfl ?_
           refine hr1 rfl rfl rfl (ev_fieldAddr 2 rfl Tryz.underlying55 rfl Tryz.sizeOf3) rfl ?_
           refine hr1 rfl rfl rfl (ev_load rfl Tryz.isAgg3 zin rfl) rfl ?_
           refine hcall1 rfl rfl rfl (wHolder) rfl Tryz.call23 ztk rfl ?_
           rintro v L' ⟨rfl, rfl⟩; refine ⟨zge, ?_⟩
           refine hr1 rfl rfl rfl (ev_neq rfl rfl) rfl ?_
           rw [show (!decide (W.f.holder = W.f.holder)) = false by simp]
           refine hr1 rfl rfl rfl (ev_pick0 rfl rfl) rfl ?_
           refine hr1 rfl rfl rfl (ev_move rfl) rfl ?_
           refine hr1 rfl rfl rfl (ev_move rfl) rfl ?_
           refine hr1 rfl rfl rfl (ev_move rfl) rfl ?_
           refine hr1 rfl rfl rfl (ev_nil rfl) rfl ?_
           refine hr1 rfl rfl rfl (ev_fieldAddr 3 rfl Tryz.underlying55 rfl Tryz.sizeOf3) rfl ?_
           refine hr1 rfl rfl rfl (ev_load rfl Tryz.isAgg3 zin rfl) rfl ?_
           refine hcall1 rfl rfl rfl (wMask) rfl Tryz.call24 ztk rfl ?_
           rintro v L' ⟨rfl, rfl⟩; refine ⟨zge, ?_⟩
           refine hr1 rfl rfl rfl (ev_neq rfl rfl) rfl ?_
           rw [show (!decide (W.f.mask = W.f.mask)) = false by simp]
           refine hr1 rfl rfl rfl (ev_pick0 rfl rfl) rfl ?_
           refine hr1 rfl rfl rfl (ev_move rfl) rfl ?_
           refine hr1 rfl rfl rfl (ev_move rfl) rfl ?_
           refine hr1 rfl rfl rfl (ev_move rfl) rfl ?_
           refine hr1 rfl rfl rfl (ev_nil rfl) rfl ?_
           refine hr1 rfl rfl rfl (ev_fieldAddr 6 rfl Tryz.underlying55 rfl Tryz.sizeOf2) rfl ?_
           refine hr1 rfl rfl rfl (ev_load rfl Tryz.isAgg2 zin rfl) rfl ?_
           refine hcall1 rfl rfl rfl (wLeft) rfl Tryz.call25 ztk rfl ?_
           rintro v L' ⟨rfl, rfl⟩; refine ⟨zge, ?_⟩
           refine hr1 rfl rfl rfl (ev_neq rfl rfl) rfl ?_
           rw [show (!decide (W.left = W.left)) = false by simp]
           refine hr1 rfl rfl rfl (ev_pick0 rfl rfl) rfl ?_
           refine hnil ?_
           refine y (ev_pick1 rfl rfl) rfl ?_
           refine hnoP' (kthn (hK23 _ _ ?_))
           clear hK23
           refine ccond0 rfl ?_
           refine cskip' (kthn (hK22 _ _ ?_))
           clear hK22
           refine cseq ?_; intro K31 hK31
           refine creg ?_
           refine y (ev_assign rfl) rfl ?_
           refine ynil' (kthn (hK31 _ _ ?_))
           clear hK31
           refine cblock ?_
           refine cloop (A := Nat) (fun x => [(24, i64 x), (17, i64 z), (15, twV2 tt), (13, twV1 tt), (12, ptr p34), (11, dp q32), (0, i64 n), (1, i64 a), (2, i64 b), (3, i64 wait), (4, lv)]) (fun x => [twA tt, twB q32 tt, twC tt, twL tt, twD p34 tt, dev q32 D, rdev p34 la34 E] ++ R) (fun x => x ≤ 6) (fun x => 6 - x) (0) ?_ zsub zge ?_
           · exact Nat.zero_le _
           rintro s hI3 KL3 hL3
           have hs6 := hI3
           refine cseq ?_; intro K32 hK32
           refine cseq ?_; intro K33 hK33
           refine creg ?_
           refine y (ev_move rfl) rfl ?_
           refine y (ev_move rfl) rfl ?_
           refine y (ev_lss rfl rfl) rfl ?_
           refine y (ev_move rfl) rfl ?_
           refine ysplit 242 rfl (fun h151 => ?_) (fun h151 => ?_)
           ·(try simp only [sH] at h151)
            refine yg1 rfl rfl ?_
            refine y (ev_move rfl) rfl ?_
            refine yg1 rfl rfl ?_
            refine y (ev_lss rfl rfl) rfl ?_
            refine y (ev_pick1 rfl rfl) rfl ?_
            refine ynil' (kthn (hK33 _ _ ?_))
            clear hK33
            refine ccond rfl (fun h155 => ?_) (fun h155 => ?_)
            ·(try simp only [sH] at h155)
             refine cskip' (kthn (hK32 _ _ ?_))
             clear hK32
             refine cseq ?_; intro K34 hK34
             refine cblock ?_
             refine cseq ?_; intro K35 hK35
             refine creg ?_
             refine y (ev_move rfl) rfl ?_
             refine y (ev_move rfl) rfl ?_
             refine ycall (secReadU hS.r.ok) rfl Tryz.call26 ztk rfl ?_
             rintro v L' ⟨s251, rfl, ok251, rfl⟩
             refine y (ev_move rfl) rfl ?_
             refine y (ev_extract rfl rfl) rfl ?_
             refine y (ev_extract rfl rfl) rfl ?_
             refine y (ev_assign rfl) rfl ?_
             refine y (ev_assign rfl) rfl ?_
             refine ynil' (kthn (hK35 _ _ ?_))
             clear hK35
             refine cseq ?_; intro K36 hK36
             refine creg ?_
             refine y (ev_move rfl) rfl ?_
             refine y (ev_move rfl) rfl ?_
             refine ycall (rdReadU hS.r.rok (fun h => by rw [← hS.r.has] at h; obtain ⟨-, q0, q1⟩ := has_zero h; rw [← hS.r.sec q0 q1]; exact sec_length hS.r.ok _)) rfl Tryz.call27 ztk rfl ?_
             rintro v L' ⟨s257, rfl, ok257, rfl⟩
             rw [← hS.r.rdB, ← hS.r.has] at *
             have hb251 : RdB [svSeg s251 5 (bytesV (D.rdB s))] (svVal s251 (D.rdB s).length) (D.rdB s) := rdB_sv .z ok251
             have hb257 : RdB [svSeg s257 5 (bytesV (D.rdB s))] (svVal s257 (D.rdB s).length) (D.rdB s) := rdB_sv .z ok257
             generalize D.rdB s = bs at *
             refine y (ev_move rfl) rfl ?_
             refine y (ev_extract rfl rfl) rfl ?_
             refine y (ev_extract rfl rfl) rfl ?_
             refine y (ev_assign rfl) rfl ?_
             refine y (ev_assign rfl) rfl ?_
             refine ynil' (kthn (hK36 _ _ ?_))
             clear hK36
             refine cseq ?_; intro K37 hK37
             refine creg ?_
             skip
             ·skip
              refine y (ev_move rfl) rfl ?_
              refine y (ev_toStrB hb251 zge rfl Tryz.underlying50 Tryz.underlying9 Tryz.underlying5) rfl ?_
              refine y (ev_move rfl) rfl ?_
              refine y (ev_toStrB hb257 zge rfl Tryz.underlying50 Tryz.underlying9 Tryz.underlying5) rfl ?_
              first
                | refine y (ev_neqL rfl rfl) rfl ?_
                | refine y (ev_neqS rfl rfl) rfl ?_
              rw [show decide (bs ≠ bs) = false by simp]
              refine y (ev_move rfl) rfl ?_
              refine yg1 rfl rfl ?_
              refine y (ev_move rfl) rfl ?_
              refine yg1 rfl rfl ?_
              refine y (ev_move rfl) rfl ?_
              refine yg1 rfl rfl ?_
              refine y (ev_neq rfl rfl) rfl ?_
              rw [show (!decide (D.has s = D.has s)) = false by simp]
              refine y (ev_pick0 rfl rfl) rfl ?_
              refine ynil' (kthn (hK37 _ _ ?_))
              clear hK37
              refine ccond0 rfl ?_
              refine cskip' (kbn (kthn (hK34 _ _ ?_)))
              clear hK34
              refine creg ?_
              refine y (ev_move rfl) rfl ?_
              refine y (ev_add rfl rfl) rfl ?_
              rw [show IntKind.i64.wrap ((s:Int) + 1) = ((s+1 : Nat) : Int) by rw [wr (by omega) (by omega)]; rfl]
              refine y (ev_assign rfl) rfl ?_
              refine ynil' (kthn ?_)
              exact hL3 (s + 1) (by first | omega | (dsimp only; omega)) (by omega) _ _ zsub zge
            ·(try simp only [sH] at h155)
             refine cexit (kthx (kthx (kbx (kbn (kthn (hK16 _ _ ?_))))))
             clear hK16
             refine creg ?_
             refine y (ev_move rfl) rfl ?_
             refine y (ev_add rfl rfl) rfl ?_
             rw [show IntKind.i64.wrap ((z:Int) + 1) = ((z+1 : Nat) : Int) by rw [wr (by omega) (by omega)]; rfl]
             refine y (ev_assign rfl) rfl ?_
             refine ynil' (kthn ?_)
             first | exact hL1 (z + 1, ⟨D, E, tt⟩) ⟨hS, by dsimp only; omega, by dsimp only; omega⟩ (by dsimp only; omega) _ _ zsub zge | exact hL1 (z + 1, ⟨D, E, none⟩) ⟨hS, by dsimp only; omega, by dsimp only; omega⟩ (by dsimp only; omega) _ _ zsub zge
           ·(try simp only [sH] at h151)
            refine yg0 rfl rfl rfl rfl ?_
            refine yg0 rfl rfl rfl rfl ?_
            refine y (ev_pick0 rfl rfl) rfl ?_
            refine ynil' (kthn (hK33 _ _ ?_))
            clear hK33
            refine ccond0 rfl ?_
            refine cexit (kthx (kthx (kbx (kbn (kthn (hK16 _ _ ?_))))))
            clear hK16
            refine creg ?_
            refine y (ev_move rfl) rfl ?_
            refine y (ev_add rfl rfl) rfl ?_
            rw [show IntKind.i64.wrap ((z:Int) + 1) = ((z+1 : Nat) : Int) by rw [wr (by omega) (by omega)]; rfl]
            refine y (ev_assign rfl) rfl ?_
            refine ynil' (kthn ?_)
            first | exact hL1 (z + 1, ⟨D, E, tt⟩) ⟨hS, by dsimp only; omega, by dsimp only; omega⟩ (by dsimp only; omega) _ _ zsub zge | exact hL1 (z + 1, ⟨D, E, none⟩) ⟨hS, by dsimp only; omega, by dsimp only; omega⟩ (by dsimp only; omega) _ _ zsub zge
         clear hK21
         refine cseq ?_; intro K38 hK38
         refine creg ?_
         refine y (ev_fieldAddr 0 rfl Tryz.underlying40 rfl Tryz.sizeOf3) rfl ?_
         refine y (ev_load rfl Tryz.isAgg3 zin rfl) rfl ?_
         refine ynil' (kthn (hK38 _ _ ?_))
         clear hK38
         refine cblock ?_
         refine cseq ?_; intro K39 hK39
         refine creg ?_
         refine y (ev_eql rfl rfl) rfl ?_
         refine y (ev_assign rfl) rfl ?_
         refine ynil' (kthn (hK39 _ _ ?_))
         clear hK39
         refine ccond rfl (fun h196 => ?_) (fun h196 => ?_)
         ·(try simp only [sH] at h196)
          refine cseq ?_; intro K40 hK40
          refine cseq ?_; intro K41 hK41
          refine creg ?_
          rcases t with _ | ⟨⟨s1, c1⟩, ⟨s2, c2, lb⟩, W⟩
          ·skip
           refine y (ev_move rfl) rfl ?_
           refine y (ev_eqlPnil rfl rfl Tryz.underlying28) rfl ?_
           refine ynil' (kthn (hK41 _ _ ?_))
           clear hK41
           refine ccond1 rfl ?_
           refine cexit (kthx (kbp rfl (kthx (kbx (kthn (hK16 _ _ ?_))))))
           clear hK16
           refine creg ?_
           refine y (ev_move rfl) rfl ?_
           refine y (ev_add rfl rfl) rfl ?_
           rw [show IntKind.i64.wrap ((z:Int) + 1) = ((z+1 : Nat) : Int) by rw [wr (by omega) (by omega)]; rfl]
           refine y (ev_assign rfl) rfl ?_
           refine ynil' (kthn ?_)
           first | exact hL1 (z + 1, ⟨D, E, tt⟩) ⟨hS, by dsimp only; omega, by dsimp only; omega⟩ (by dsimp only; omega) _ _ zsub zge | exact hL1 (z + 1, ⟨D, E, none⟩) ⟨hS, by dsimp only; omega, by dsimp only; omega⟩ (by dsimp only; omega) _ _ zsub zge
          ·skip
           refine y (ev_move rfl) rfl ?_
           refine y (ev_eqlPnil rfl rfl Tryz.underlying28) rfl ?_
           refine ynil' (kthn (hK41 _ _ ?_))
           clear hK41
           refine ccond0 rfl ?_
           refine cskip' (kthn (hK40 _ _ ?_))
           clear hK40
           refine cseq ?_; intro K42 hK42
           refine creg ?_
           refine y (ev_move rfl) rfl ?_
           refine y (ev_fieldAddr 2 rfl Tryz.underlying40 rfl Tryz.sizeOf3) rfl ?_
           refine y (ev_load rfl Tryz.isAgg3 zin rfl) rfl ?_
           refine y (ev_fieldAddr 3 rfl Tryz.underlying40 rfl Tryz.sizeOf37) rfl ?_
           refine y (ev_loadN (u := yy.m.cells) rfl Tryz.isAgg37 Tryz.sizeOf37 zin rfl rfl) rfl ?_
           refine ycall (wTake (m := yy.m) ?wok209) rfl Tryz.call11 ztk rfl ?_
           case wok209 => exact hS.l
           rintro v L' ⟨rfl, rfl⟩
           refine y (ev_move rfl) rfl ?_
           refine y (ev_extract rfl rfl) rfl ?_
           refine y (ev_extract rfl rfl) rfl ?_
           refine ya (ac_alloc Tryz.zeroValue37 rfl) rfl ?_
           rintro v L' ⟨b19, rfl, rfl⟩
           refine ya0 (ac_storeN rfl rfl (msg_one _) Tryz.sizeOf37 zrp rfl (by simp [MsgM.cells]) rfl) ?_
           rintro v L' ⟨rfl, rfl⟩
           refine y (ev_assign rfl) rfl ?_
           refine ynil' (kthn (hK42 _ _ ?_))
           clear hK42
           refine cseq ?_; intro K43 hK43
           refine creg ?_
           refine y (ev_move rfl) rfl ?_
           refine y (ev_fieldAddr 2 rfl Tryz.underlying40 rfl Tryz.sizeOf3) rfl ?_
           refine y (ev_load rfl Tryz.isAgg3 zin rfl) rfl ?_
           refine y (ev_fieldAddr 3 rfl Tryz.underlying40 rfl Tryz.sizeOf37) rfl ?_
           refine y (ev_loadN (u := yy.m.cells) rfl Tryz.isAgg37 Tryz.sizeOf37 zin rfl rfl) rfl ?_
           refine ycall (xTake (m := yy.m) ?wok221) rfl Tryz.call12 ztk rfl ?_
           case wok221 => exact rw_ok hS.l hS.r
           rintro v L' ⟨z110, rfl, rfl⟩
           obtain ⟨e1, e2, e3⟩ := WitM.takeR_rel hS.r (W := W) hS.l.wait.1 yy.fr yy.m
           rw [← e1, ← e2]
           have hSn := WdM.ok.of (z := ((s1, c1), (s2, c2, z110), (W.take D yy.fr yy.m).2.1)) e3 ((WitM.take_l yy.fr yy.m).trans hS.len) (WitM.take_ok hS.l yy.fr yy.m)
           generalize W.take D yy.fr yy.m = r at *
           refine y (ev_move rfl) rfl ?_
           refine y (ev_extract rfl rfl) rfl ?_
           refine y (ev_extract rfl rfl) rfl ?_
           refine ya (ac_alloc Tryz.zeroValue37 rfl) rfl ?_
           rintro v L' ⟨b21, rfl, rfl⟩
           refine ya0 (ac_storeN rfl rfl (msg_one _) Tryz.sizeOf37 zrp rfl (by simp [MsgM.cells]) rfl) ?_
           rintro v L' ⟨rfl, rfl⟩
           refine y (ev_assign rfl) rfl ?_
           refine ynil' (kthn (hK43 _ _ ?_))
           clear hK43
           refine cseq ?_; intro K44 hK44
           refine creg ?_
           skip
           ·skip
            refine y (ev_loadN (u := r.1.1.cells) rfl Tryz.isAgg37 Tryz.sizeOf37 zin rfl rfl) rfl ?_
            refine y (ev_loadN (u := r.1.1.cells) rfl Tryz.isAgg37 Tryz.sizeOf37 zin rfl rfl) rfl ?_
            refine y (ev_neqF (p := True) rfl rfl (by kernel_rfl) (by simp)) rfl ?_
            rw [show (!decide True) = false by simp]
            refine y (ev_move rfl) rfl ?_
            refine yg1 rfl rfl ?_
            refine y (ev_move rfl) rfl ?_
            refine yg1 rfl rfl ?_
            refine y (ev_move rfl) rfl ?_
            refine yg1 rfl rfl ?_
            refine y (ev_neqB rfl rfl Tryz.underlying4) rfl ?_
            rw [show (!(r.1.2 == r.1.2)) = false by simp]
            refine y (ev_pick0 rfl rfl) rfl ?_
            refine ynil' (kthn (hK44 _ _ ?_))
            clear hK44
            refine ccond0 rfl ?_
            refine cskip' (kbn (kthn ?_))
            first | (have hSn1 := hSn; exact ksub zsub zge (hJr43 _ hSn1)) | exact ksub zsub zge (hJr43 _ hS)
         ·(try simp only [sH] at h196)
          refine cseq ?_; intro K45 hK45
          refine creg ?_
          refine y (ev_eql rfl rfl) rfl ?_
          refine y (ev_assign rfl) rfl ?_
          refine ynil' (kthn (hK45 _ _ ?_))
          clear hK45
          refine ccond rfl (fun h238 => ?_) (fun h238 => ?_)
          ·(try simp only [sH] at h238)
           refine cseq ?_; intro K46 hK46
           refine creg ?_
           refine y (ev_assign rfl) rfl ?_
           refine ynil' (kthn (hK46 _ _ ?_))
           clear hK46
           refine cblock ?_
           refine cloop (A := Nat × TwW) (fun x => [(23, i64 x.1), (18, ptr b18), (17, i64 z), (15, twV2 x.2), (13, twV1 x.2), (12, ptr p34), (11, dp q32), (0, i64 n), (1, i64 a), (2, i64 b), (3, i64 wait), (4, lv)]) (fun x => [sc b18 yy.cells 40, twA x.2, twB q32 x.2, twC x.2, twL x.2, twD p34 x.2, dev q32 D, rdev p34 la34 E] ++ R) (fun x => WdM.ok ⟨D, E, x.2⟩ n.toNat ∧ x.1 ≤ (yy.n.tmod 50).toNat ∧ x.1 ≤ 50) (fun x => (yy.n.tmod 50).toNat - x.1) ((0, t)) ?_ zsub zge ?_
           · exact ⟨hS, Nat.zero_le _, Nat.zero_le _⟩
           rintro ⟨k, t⟩ hI2 KL2 hL2
           have hI2o := hI2
           obtain ⟨hS, hk, hk50⟩ := hI2; dsimp only at hS hk hk50 ⊢; obtain ⟨ht1, ht2, ht3⟩ := tmod50 yy.n
           refine cseq ?_; intro K47 hK47
           refine cseq ?_; intro K48 hK48
           refine creg ?_
           rcases t with _ | ⟨⟨s1, c1⟩, ⟨s2, c2, lb⟩, W⟩
           ·skip
            refine y (ev_move rfl) rfl ?_
            refine y (ev_fieldAddr 1 rfl Tryz.underlying40 rfl Tryz.sizeOf3) rfl ?_
            refine y (ev_load rfl Tryz.isAgg3 zin rfl) rfl ?_
            refine y (ev_rem rfl rfl (by decide)) rfl ?_
            refine y (ev_lss rfl rfl) rfl ?_
            refine y (ev_move rfl) rfl ?_
            refine ysplit 128 rfl (fun h246 => ?_) (fun h246 => ?_)
            ·(try simp only [sH] at h246)
             refine yg1 rfl rfl ?_
             refine y (ev_move rfl) rfl ?_
             refine yg1 rfl rfl ?_
             refine y (ev_neqPnil rfl rfl Tryz.underlying28) rfl ?_
             refine y (ev_pick1 rfl rfl) rfl ?_
             refine ynil' (kthn (hK48 _ _ ?_))
             clear hK48
             refine ccond0 rfl ?_
             refine cexit (kthx (kthx (kbx (kbn (kthn ?_)))))
             first | (have hSn1 := hSn; exact ksub zsub zge (hJr43 _ hSn1)) | exact ksub zsub zge (hJr43 _ hS)
            ·(try simp only [sH] at h246)
             refine yg0 rfl rfl rfl rfl ?_
             refine yg0 rfl rfl rfl rfl ?_
             refine y (ev_pick0 rfl rfl) rfl ?_
             refine ynil' (kthn (hK48 _ _ ?_))
             clear hK48
             refine ccond0 rfl ?_
             refine cexit (kthx (kthx (kbx (kbn (kthn ?_)))))
             first | (have hSn1 := hSn; exact ksub zsub zge (hJr43 _ hSn1)) | exact ksub zsub zge (hJr43 _ hS)
           ·skip
            refine y (ev_move rfl) rfl ?_
            refine y (ev_fieldAddr 1 rfl Tryz.underlying40 rfl Tryz.sizeOf3) rfl ?_
            refine y (ev_load rfl Tryz.isAgg3 zin rfl) rfl ?_
            refine y (ev_rem rfl rfl (by decide)) rfl ?_
            refine y (ev_lss rfl rfl) rfl ?_
            refine y (ev_move rfl) rfl ?_
            refine ysplit 128 rfl (fun h257 => ?_) (fun h257 => ?_)
            ·(try simp only [sH] at h257)
             refine yg1 rfl rfl ?_
             refine y (ev_move rfl) rfl ?_
             refine yg1 rfl rfl ?_
             refine y (ev_neqPnil rfl rfl Tryz.underlying28) rfl ?_
             refine y (ev_pick1 rfl rfl) rfl ?_
             refine ynil' (kthn (hK48 _ _ ?_))
             clear hK48
             refine ccond1 rfl ?_
             refine cskip' (kthn (hK47 _ _ ?_))
             clear hK47
             refine cseq ?_; intro K49 hK49
             refine cblock ?_
             refine cseq ?_; intro K50 hK50
             refine creg ?_
             refine y (ev_move rfl) rfl ?_
             refine ycall (wTick ?lf262) rfl Tryz.call13 ztk rfl ?_
             case lf262 => exact hS.l.left
             rintro v L' ⟨rfl, rfl⟩
             refine ynil' (kthn (hK50 _ _ ?_))
             clear hK50
             refine creg ?_
             refine y (ev_move rfl) rfl ?_
             refine ycall (xTick ?lf264) rfl Tryz.call14 ztk rfl ?_
             case lf264 => exact hS.l.left
             rintro v L' ⟨rfl, rfl⟩
             refine ynil' (kbn (kthn (hK49 _ _ ?_)))
             clear hK49
             refine creg ?_
             refine y (ev_move rfl) rfl ?_
             refine y (ev_add rfl rfl) rfl ?_
             rw [show IntKind.i64.wrap ((k:Int) + 1) = ((k+1 : Nat) : Int) by rw [wr (by omega) (by omega)]; rfl]
             refine y (ev_assign rfl) rfl ?_
             refine ynil' (kthn ?_)
             exact hL2 (k + 1, some ((s1, c1), (s2, c2, lb), W.tick)) ⟨hS.tick, by dsimp only; omega, by dsimp only; omega⟩ (by dsimp only; omega) _ _ zsub zge
            ·(try simp only [sH] at h257)
             refine yg0 rfl rfl rfl rfl ?_
             refine yg0 rfl rfl rfl rfl ?_
             refine y (ev_pick0 rfl rfl) rfl ?_
             refine ynil' (kthn (hK48 _ _ ?_))
             clear hK48
             refine ccond0 rfl ?_
             refine cexit (kthx (kthx (kbx (kbn (kthn ?_)))))
             first | (have hSn1 := hSn; exact ksub zsub zge (hJr43 _ hSn1)) | exact ksub zsub zge (hJr43 _ hS)
          ·(try simp only [sH] at h238)
           refine cseq ?_; intro K51 hK51
           refine creg ?_
           refine y (ev_eql rfl rfl) rfl ?_
           refine y (ev_assign rfl) rfl ?_
           refine ynil' (kthn (hK51 _ _ ?_))
           clear hK51
           refine ccond rfl (fun h271 => ?_) (fun h271 => ?_)
           ·(try simp only [sH] at h271)
            refine cseq ?_; intro K52 hK52
            refine creg ?_
            refine y (ev_move rfl) rfl ?_
            refine y (ev_fieldAddr 17 rfl Tryz.underlying40 rfl Tryz.sizeOf38) rfl ?_
            refine y (ev_load rfl Tryz.isAgg38 zin rfl) rfl ?_
            refine ycall (secCrash (ks := yy.ks) ?ok275 ?ks275) rfl Tryz.call15 ztk rfl ?_
            case ok275 => first | exact hS.r.ok | exact hS.r.rok
            case ks275 => exact hact.keeps.mono zge
            rintro v L' ⟨rfl, rfl⟩
            refine ynil' (kthn (hK52 _ _ ?_))
            clear hK52
            refine cseq ?_; intro K53 hK53
            refine creg ?_
            refine y (ev_move rfl) rfl ?_
            refine y (ev_fieldAddr 17 rfl Tryz.underlying40 rfl Tryz.sizeOf38) rfl ?_
            refine y (ev_load rfl Tryz.isAgg38 zin rfl) rfl ?_
            refine ycall (xKeeps (ks := yy.ks) ?ks279 ?six279) rfl Tryz.call17 ztk rfl ?_
            case ks279 => exact hact.keeps.mono zge
            case six279 => omega
            rintro v L' ⟨s147, rfl, ok147, rfl⟩
            refine ycall (rdCrash (ks := yy.ks) ?ok280 ?ks280) rfl Tryz.call16 ztk rfl ?_
            case ok280 => first | exact hS.r.ok | exact hS.r.rok
            case ks280 => exact rdV_sv zin ok147
            rintro v L' ⟨rfl, rfl⟩
            refine ynil' (kthn (hK53 _ _ ?_))
            clear hK53
            refine cseq ?_; intro K54 hK54
            refine creg ?_
            have hR1 := hS.r.crash yy.ks
            have hl1 : (D.crash yy.ks).l.length = n.toNat := by rw [← hS.len]; simp [Dev.crash, crashL_length]
            generalize D.crash yy.ks = D1 at *
            generalize E.crash yy.ks = E1 at *
            refine y (ev_move rfl) rfl ?_
            refine y (ev_move rfl) rfl ?_
            refine y (ev_move rfl) rfl ?_
            refine y (ev_move rfl) rfl ?_
            by_cases ho1 : witE D1 a b wait = 0
            ·skip
             first | (refine ycall (wOpenOkZ hR1.ok ho1) rfl Tryz.call8 ztk rfl ?_; rintro v L' ⟨s52, c52, rfl, rfl⟩) | (refine ycall (wOpenBad hR1.ok rfl ho1) rfl Tryz.call8 ztk rfl ?_; rintro v L' ⟨rfl, rfl⟩)
             refine y (ev_move rfl) rfl ?_
             refine y (ev_extract rfl rfl) rfl ?_
             refine y (ev_extract rfl rfl) rfl ?_
             refine y (ev_assign rfl) rfl ?_
             refine y (ev_assign rfl) rfl ?_
             refine ynil' (kthn (hK54 _ _ ?_))
             clear hK54
             refine cseq ?_; intro K55 hK55
             refine creg ?_
             refine y (ev_move rfl) rfl ?_
             refine y (ev_move rfl) rfl ?_
             refine y (ev_move rfl) rfl ?_
             refine y (ev_move rfl) rfl ?_
             first | (refine ycall (xOpenOk hR1 ho1) rfl Tryz.call9 ztk rfl ?_; rintro v L' ⟨s60, c60, b60, rfl, rfl⟩; have hSn := WdM.ok.of (z := ((s52, c52), (s60, c60, b60), witO D1 a b wait)) hR1 hl1 (witO_ok hR1.ok ho1)) | (refine ycall (xOpenBad hR1 ho1) rfl Tryz.call9 ztk rfl ?_; rintro v L' ⟨rfl, rfl⟩; have hSn := WdM.ok.none' hR1 hl1)
             refine y (ev_move rfl) rfl ?_
             refine y (ev_extract rfl rfl) rfl ?_
             refine y (ev_extract rfl rfl) rfl ?_
             refine y (ev_assign rfl) rfl ?_
             refine y (ev_assign rfl) rfl ?_
             refine ynil' (kthn (hK55 _ _ ?_))
             clear hK55
             refine cseq ?_; intro K56 hK56
             refine creg ?_
             refine y (ev_move rfl) rfl ?_
             refine y (ev_move rfl) rfl ?_
             refine y (ev_neq rfl rfl) rfl ?_
             try rw [show (!decide (witE D1 a b wait = witE D1 a b wait)) = false by simp]
             refine y (ev_move rfl) rfl ?_
             refine yg1 rfl rfl ?_
             refine y (ev_move rfl) rfl ?_
             refine yg1 rfl rfl ?_
             refine y (ev_eqlPnil rfl rfl Tryz.underlying28) rfl ?_
             refine yg1 rfl rfl ?_
             refine y (ev_move rfl) rfl ?_
             refine yg1 rfl rfl ?_
             refine y (ev_eqlPnil rfl rfl Tryz.underlying32) rfl ?_
             refine yg1 rfl rfl ?_
             refine y (ev_neqB rfl rfl Tryz.underlying4) rfl ?_
             refine y (ev_pick0 rfl rfl) rfl ?_
             refine ynil' (kthn (hK56 _ _ ?_))
             clear hK56
             refine ccond0 rfl ?_
             refine cskip' (kbn (kthn ?_))
             first | (have hSn1 := hSn; exact ksub zsub zge (hJr43 _ hSn1)) | exact ksub zsub zge (hJr43 _ hS)
            ·skip
             first | (refine ycall (wOpenOkZ hR1.ok ho1) rfl Tryz.call8 ztk rfl ?_; rintro v L' ⟨s52, c52, rfl, rfl⟩) | (refine ycall (wOpenBad hR1.ok rfl ho1) rfl Tryz.call8 ztk rfl ?_; rintro v L' ⟨rfl, rfl⟩)
             refine y (ev_move rfl) rfl ?_
             refine y (ev_extract rfl rfl) rfl ?_
             refine y (ev_extract rfl rfl) rfl ?_
             refine y (ev_assign rfl) rfl ?_
             refine y (ev_assign rfl) rfl ?_
             refine ynil' (kthn (hK54 _ _ ?_))
             clear hK54
             refine cseq ?_; intro K57 hK57
             refine creg ?_
             refine y (ev_move rfl) rfl ?_
             refine y (ev_move rfl) rfl ?_
             refine y (ev_move rfl) rfl ?_
             refine y (ev_move rfl) rfl ?_
             first | (refine ycall (xOpenOk hR1 ho1) rfl Tryz.call9 ztk rfl ?_; rintro v L' ⟨s60, c60, b60, rfl, rfl⟩; have hSn := WdM.ok.of (z := ((s52, c52), (s60, c60, b60), witO D1 a b wait)) hR1 hl1 (witO_ok hR1.ok ho1)) | (refine ycall (xOpenBad hR1 ho1) rfl Tryz.call9 ztk rfl ?_; rintro v L' ⟨rfl, rfl⟩; have hSn := WdM.ok.none' hR1 hl1)
             refine y (ev_move rfl) rfl ?_
             refine y (ev_extract rfl rfl) rfl ?_
             refine y (ev_extract rfl rfl) rfl ?_
             refine y (ev_assign rfl) rfl ?_
             refine y (ev_assign rfl) rfl ?_
             refine ynil' (kthn (hK57 _ _ ?_))
             clear hK57
             refine cseq ?_; intro K58 hK58
             refine creg ?_
             refine y (ev_move rfl) rfl ?_
             refine y (ev_move rfl) rfl ?_
             refine y (ev_neq rfl rfl) rfl ?_
             try rw [show (!decide (witE D1 a b wait = witE D1 a b wait)) = false by simp]
             refine y (ev_move rfl) rfl ?_
             refine yg1 rfl rfl ?_
             refine y (ev_move rfl) rfl ?_
             refine yg1 rfl rfl ?_
             refine y (ev_eqlPnil rfl rfl Tryz.underlying28) rfl ?_
             refine yg1 rfl rfl ?_
             refine y (ev_move rfl) rfl ?_
             refine yg1 rfl rfl ?_
             refine y (ev_eqlPnil rfl rfl Tryz.underlying32) rfl ?_
             refine yg1 rfl rfl ?_
             refine y (ev_neqB rfl rfl Tryz.underlying4) rfl ?_
             refine y (ev_pick0 rfl rfl) rfl ?_
             refine ynil' (kthn (hK58 _ _ ?_))
             clear hK58
             refine ccond0 rfl ?_
             refine cskip' (kbn (kthn ?_))
             first | (have hSn1 := hSn; exact ksub zsub zge (hJr43 _ hSn1)) | exact ksub zsub zge (hJr43 _ hS)
           ·(try simp only [sH] at h271)
            refine cseq ?_; intro K59 hK59
            refine creg ?_
            refine y (ev_eql rfl rfl) rfl ?_
            refine y (ev_assign rfl) rfl ?_
            refine ynil' (kthn (hK59 _ _ ?_))
            clear hK59
            refine ccond rfl (fun h339 => ?_) (fun h339 => ?_)
            ·(try simp only [sH] at h339)
             refine cseq ?_; intro K60 hK60
             refine creg ?_
             refine y (ev_move rfl) rfl ?_
             refine y (ev_fieldAddr 1 rfl Tryz.underlying40 rfl Tryz.sizeOf3) rfl ?_
             refine y (ev_load rfl Tryz.isAgg3 zin rfl) rfl ?_
             refine ycall (secFuse) rfl Tryz.call18 ztk rfl ?_
             rintro v L' ⟨rfl, rfl⟩
             refine ynil' (kthn (hK60 _ _ ?_))
             clear hK60
             refine creg ?_
             refine y (ev_move rfl) rfl ?_
             refine y (ev_fieldAddr 1 rfl Tryz.underlying40 rfl Tryz.sizeOf3) rfl ?_
             refine y (ev_load rfl Tryz.isAgg3 zin rfl) rfl ?_
             refine ycall (rdFuse) rfl Tryz.call19 ztk rfl ?_
             rintro v L' ⟨rfl, rfl⟩
             have hSn := hS.dev (hS.r.setFuse hact.n.2) (show (D.setFuse yy.n).l.length = n.toNat from hS.len)
             refine ynil' (kbn (kthn ?_))
             first | (have hSn1 := hSn; exact ksub zsub zge (hJr43 _ hSn1)) | exact ksub zsub zge (hJr43 _ hS)
            ·(try simp only [sH] at h339)
             refine cseq ?_; intro K61 hK61
             refine creg ?_
             refine y (ev_eql rfl rfl) rfl ?_
             refine y (ev_assign rfl) rfl ?_
             refine ynil' (kthn (hK61 _ _ ?_))
             clear hK61
             refine ccond rfl (fun h350 => ?_) (fun h350 => ?_)
             ·(try simp only [sH] at h350)
              refine cseq ?_; intro K62 hK62
              refine creg ?_
              refine y (ev_move rfl) rfl ?_
              refine y (ev_fieldAddr 1 rfl Tryz.underlying40 rfl Tryz.sizeOf3) rfl ?_
              refine y (ev_load rfl Tryz.isAgg3 zin rfl) rfl ?_
              refine y (ev_fieldAddr 16 rfl Tryz.underlying40 rfl Tryz.sizeOf9) rfl ?_
              refine y (ev_load rfl Tryz.isAgg9 zin rfl) rfl ?_
              refine ya (ac_toBytesY rfl Tryz.underlying9 Tryz.underlying50 Tryz.underlying5) rfl ?_
              rintro v L' ⟨b192, c192, sp192, fr192, rfl, hc192, rfl⟩
              refine ycall (secWrite (bs := yy.s) ?ok357 ?rd357) rfl Tryz.call20 ztk rfl ?_
              case ok357 => first | exact hS.r.ok | exact hS.r.rok
              case rd357 => exact rdB_in zin rfl (by simp)
              rintro v L' ⟨rfl, rfl⟩
              refine ynil' (kthn (hK62 _ _ ?_))
              clear hK62
              refine creg ?_
              refine y (ev_move rfl) rfl ?_
              refine y (ev_fieldAddr 1 rfl Tryz.underlying40 rfl Tryz.sizeOf3) rfl ?_
              refine y (ev_load rfl Tryz.isAgg3 zin rfl) rfl ?_
              refine y (ev_fieldAddr 16 rfl Tryz.underlying40 rfl Tryz.sizeOf9) rfl ?_
              refine y (ev_load rfl Tryz.isAgg9 zin rfl) rfl ?_
              refine ya (ac_toBytesY rfl Tryz.underlying9 Tryz.underlying50 Tryz.underlying5) rfl ?_
              rintro v L' ⟨b199, c199, sp199, fr199, rfl, hc199, rfl⟩
              refine ycall (rdWrite (bs := yy.s) ?ok364 ?rd364) rfl Tryz.call21 ztk rfl ?_
              case ok364 => first | exact hS.r.ok | exact hS.r.rok
              case rd364 => exact rdB_in zin rfl (by simp)
              rintro v L' ⟨rfl, rfl⟩
              obtain ⟨e1, e2⟩ := hS.r.write yy.n yy.s
              have hSn := hS.dev e2 (show (D.write yy.n yy.s).2.l.length = n.toNat by rw [write_l]; exact hS.len)
              refine ynil' (kbn (kthn ?_))
              first | (have hSn1 := hSn; exact ksub zsub zge (hJr43 _ hSn1)) | exact ksub zsub zge (hJr43 _ hS)
             ·(try simp only [sH] at h350)
              have hSn := hS
              refine cskip' (kbn (kthn ?_))
              first | (have hSn1 := hSn; exact ksub zsub zge (hJr43 _ hSn1)) | exact ksub zsub zge (hJr43 _ hS)
       ·(try simp only [sH] at h47)
        refine cexit (kthx (kthx (kbx (kthn ?_))))
        exact ksub zsub zge (hJ1 ⟨z, D, E, t⟩ ⟨hI1o, by first | trivial | omega⟩)
      ·(try simp only [sH] at h43)
       refine yg0 rfl rfl rfl rfl ?_
       refine yg0 rfl rfl rfl rfl ?_
       refine y (ev_pick0 rfl rfl) rfl ?_
       refine ynil' (kthn (hK15 _ _ ?_))
       clear hK15
       refine ccond0 rfl ?_
       refine cexit (kthx (kthx (kbx (kthn ?_))))
       exact ksub zsub zge (hJ1 ⟨z, D, E, t⟩ ⟨hI1o, by first | trivial | omega⟩)
     clear hK10
     refine cseq ?_; intro K63 hK63
     refine creg ?_
     refine y (ev_move rfl) rfl ?_
     refine y (ev_move rfl) rfl ?_
     refine y (ev_neq rfl rfl) rfl ?_
     try rw [show (!decide (witE D0 a b wait = witE D0 a b wait)) = false by simp]
     refine y (ev_move rfl) rfl ?_
     refine yg1 rfl rfl ?_
     refine y (ev_move rfl) rfl ?_
     refine yg1 rfl rfl ?_
     refine y (ev_eqlPnil rfl rfl Tryz.underlying28) rfl ?_
     refine yg1 rfl rfl ?_
     refine y (ev_move rfl) rfl ?_
     refine yg1 rfl rfl ?_
     refine y (ev_eqlPnil rfl rfl Tryz.underlying32) rfl ?_
     refine yg1 rfl rfl ?_
     refine y (ev_neqB rfl rfl Tryz.underlying4) rfl ?_
     refine y (ev_pick0 rfl rfl) rfl ?_
     refine ynil' (kthn (hK63 _ _ ?_))
     clear hK63
     refine ccond0 rfl ?_
     refine cskip' (kthn ?_)
     exact ksub zsub zge (hJr11 t0 hS0)
    ·skip
     first | (refine ycall (wOpenOkZ hR0.ok ho) rfl Tryz.call8 ztk rfl ?_; rintro v L' ⟨s52, c52, rfl, rfl⟩) | (refine ycall (wOpenBad hR0.ok rfl ho) rfl Tryz.call8 ztk rfl ?_; rintro v L' ⟨rfl, rfl⟩)
     refine y (ev_move rfl) rfl ?_
     refine y (ev_extract rfl rfl) rfl ?_
     refine y (ev_extract rfl rfl) rfl ?_
     refine y (ev_assign rfl) rfl ?_
     refine y (ev_assign rfl) rfl ?_
     refine ynil' (kthn (hK8 _ _ ?_))
     clear hK8
     refine cseq ?_; intro K64 hK64
     refine creg ?_
     refine y (ev_move rfl) rfl ?_
     refine y (ev_move rfl) rfl ?_
     refine y (ev_move rfl) rfl ?_
     refine y (ev_move rfl) rfl ?_
     first | (refine ycall (xOpenOk hR0 ho) rfl Tryz.call9 ztk rfl ?_; rintro v L' ⟨s60, c60, b60, rfl, rfl⟩; have hS0 := WdM.ok.of (z := ((s52, c52), (s60, c60, b60), witO D0 a b wait)) hR0 hl0 (witO_ok hR0.ok ho); let t0 : TwW := some ((s52, c52), (s60, c60, b60), witO D0 a b wait)) | (refine ycall (xOpenBad hR0 ho) rfl Tryz.call9 ztk rfl ?_; rintro v L' ⟨rfl, rfl⟩; have hS0 := WdM.ok.none' hR0 hl0; let t0 : TwW := none)
     refine y (ev_move rfl) rfl ?_
     refine y (ev_extract rfl rfl) rfl ?_
     refine y (ev_extract rfl rfl) rfl ?_
     refine y (ev_assign rfl) rfl ?_
     refine y (ev_assign rfl) rfl ?_
     refine ynil' (kthn (hK64 _ _ ?_))
     clear hK64
     refine cseq ?_; intro K65 hK65
     have hJr11 : ∀ x : TwW, (WdM.ok ⟨D0, E0, x⟩ n.toNat) → Sk 270 K65 ([(15, twV2 x), (13, twV1 x), (12, ptr p34), (11, dp q32), (0, i64 n), (1, i64 a), (2, i64 b), (3, i64 wait), (4, lv)]) ([twA x, twB q32 x, twC x, twL x, twD p34 x, dev q32 D0, rdev p34 la34 E0] ++ R) := by
      rintro t0 hIr11
      refine hK65 _ _ ?_
      have hS0 := hIr11
      refine cseq ?_; intro K66 hK66
      refine cseq ?_; intro K67 hK67
      refine creg ?_
      refine y (ev_assign rfl) rfl ?_
      refine ynil' (kthn (hK67 _ _ ?_))
      clear hK67
      have hJ1 : ∀ x : Nat × WdM, ((x.2.ok n.toNat ∧ x.1 ≤ acts.length ∧ x.1 ≤ 100) ∧ (True)) → Sk 270 K66 ([(17, i64 x.1), (15, twV2 x.2.t), (13, twV1 x.2.t), (12, ptr p34), (11, dp q32), (0, i64 n), (1, i64 a), (2, i64 b), (3, i64 wait), (4, lv)]) ([twA x.2.t, twB q32 x.2.t, twC x.2.t, twL x.2.t, twD p34 x.2.t, dev q32 x.2.D, rdev p34 la34 x.2.E] ++ R) := by
       rintro ⟨z, D, E, t⟩ ⟨hI1, hX1⟩
       refine hK66 _ _ ?_
       obtain ⟨hS, hz1, hz2⟩ := hI1; dsimp only at hS hz1 hz2 ⊢
       refine cseq ?_; intro K68 hK68
       refine creg ?_
       refine y (ev_assign rfl) rfl ?_
       refine ynil' (kthn (hK68 _ _ ?_))
       clear hK68
       refine cret ?_
       first
         | (exfalso; omega; done)
         | (refine kretv Tryz.results3 rfl (L1 := R) zge ?_
            exact ⟨_, ⟨by first | rfl | (exfalso; simp_all; done), rfl⟩, by first | rfl | (exfalso; simp_all; done)⟩)
      clear hK66
      refine cblock ?_
      refine cloop (A := Nat × WdM) (fun x => [(17, i64 x.1), (15, twV2 x.2.t), (13, twV1 x.2.t), (12, ptr p34), (11, dp q32), (0, i64 n), (1, i64 a), (2, i64 b), (3, i64 wait), (4, lv)]) (fun x => [twA x.2.t, twB q32 x.2.t, twC x.2.t, twL x.2.t, twD p34 x.2.t, dev q32 x.2.D, rdev p34 la34 x.2.E] ++ R) (fun x => x.2.ok n.toNat ∧ x.1 ≤ acts.length ∧ x.1 ≤ 100) (fun x => acts.length - x.1) ((0, ⟨D0, E0, t0⟩)) ?_ zsub zge ?_
      · exact ⟨hS0, Nat.zero_le _, Nat.zero_le _⟩
      rintro ⟨z, D, E, t⟩ hI1 KL1 hL1
      have hI1o := hI1
      obtain ⟨hS, hz1, hz2⟩ := hI1; dsimp only at hS hz1 hz2 ⊢
      refine cseq ?_; intro K69 hK69
      refine cseq ?_; intro K70 hK70
      refine creg ?_
      refine y (ev_move rfl) rfl ?_
      refine y (ev_move rfl) rfl ?_
      first
        | refine y (ev_len rfl Tryz.underlying22) rfl ?_
        | refine y (ev_lenSv rfl Tryz.underlying22 (by assumption)) rfl ?_
        | refine y (ev_lenV rfl Tryz.underlying22 (RdV.lenVal (by assumption))) rfl ?_
        | refine y (ev_lenV rfl Tryz.underlying22 (RdB.lenVal (by assumption))) rfl ?_
      refine y (ev_lss rfl rfl) rfl ?_
      refine y (ev_move rfl) rfl ?_
      refine ysplit 77 rfl (fun h399 => ?_) (fun h399 => ?_)
      ·(try simp only [sH] at h399)
       refine yg1 rfl rfl ?_
       refine y (ev_move rfl) rfl ?_
       refine yg1 rfl rfl ?_
       refine y (ev_lss rfl rfl) rfl ?_
       refine y (ev_pick1 rfl rfl) rfl ?_
       refine ynil' (kthn (hK70 _ _ ?_))
       clear hK70
       refine ccond rfl (fun h403 => ?_) (fun h403 => ?_)
       ·(try simp only [sH] at h403)
        obtain ⟨yy, hy⟩ : ∃ yy, acts[z]? = some yy := ⟨_, List.getElem?_eq_getElem (by omega)⟩
        have hact := haa yy (List.mem_of_getElem? hy)
        refine cskip' (kthn (hK69 _ _ ?_))
        clear hK69
        refine cseq ?_; intro K71 hK71
        refine cblock ?_
        refine cseq ?_; intro K72 hK72
        refine creg ?_
        refine y (ev_move rfl) rfl ?_
        refine y (ev_move rfl) rfl ?_
        first
          | refine y (ev_ixAddr rfl rfl Tryz.underlying22 Tryz.sizeOf40 (by omega) (by omega)) rfl ?_
          | refine y (ev_ixV (by assumption) rfl rfl Tryz.underlying22 Tryz.sizeOf40 (by omega) (by omega)) rfl ?_
        refine y (ev_loadNV (us := yy.cells) (z * 18) hl zge rfl Tryz.isAgg40 Tryz.sizeOf40 (by simp) (actwsV_get hy) rfl) rfl ?_
        refine ya (ac_alloc Tryz.zeroValue40 rfl) rfl ?_
        rintro v L' ⟨b18, rfl, rfl⟩
        refine ya0 (ac_storeN rfl rfl hact.one Tryz.sizeOf40 zrp rfl (by simp [ActW.cells, MsgM.cells]) rfl) ?_
        rintro v L' ⟨rfl, rfl⟩
        refine ynil' (kthn (hK72 _ _ ?_))
        clear hK72
        refine cseq ?_; intro K73 hK73
        refine cseq ?_; intro K74 hK74
        refine creg ?_
        refine y (ev_loadN (u := yy.cells) rfl Tryz.isAgg40 Tryz.sizeOf40 zin rfl rfl) rfl ?_
        refine ycall (xLarge ?lx411) rfl Tryz.call10 ztk rfl ?_
        case lx411 => exact hact.mono zge
        rintro v L' ⟨big88, rfl, hbig88, rfl⟩
        refine ynil' (kthn (hK74 _ _ ?_))
        clear hK74
        refine ccond rfl (fun h412 => ?_) (fun h412 => ?_)
        ·(try simp only [sH] at h412)
         refine cseq ?_; intro K75 hK75
         refine creg ?_
         refine y (ev_assign rfl) rfl ?_
         refine ynil' (kthn (hK75 _ _ ?_))
         clear hK75
         refine cret (kthr (kbr (kthr (kthr (kbr (kthr ?_))))))
         first
           | (exfalso; omega; done)
           | (refine kretv Tryz.results3 rfl (L1 := R) zge ?_
              exact ⟨_, ⟨by first | rfl | (exfalso; simp_all; done), rfl⟩, by first | rfl | (exfalso; simp_all; done)⟩)
        ·(try simp only [sH] at h412)
         have hlg := hbig88 h412
         refine cskip' (kthn (hK73 _ _ ?_))
         clear hK73
         refine cseq ?_; intro K76 hK76
         have hJr43 : ∀ x : WdM, (x.ok n.toNat) → Sk 270 K76 ([(17, i64 z), (15, twV2 x.t), (13, twV1 x.t), (12, ptr p34), (11, dp q32), (0, i64 n), (1, i64 a), (2, i64 b), (3, i64 wait), (4, lv)]) ([twA x.t, twB q32 x.t, twC x.t, twL x.t, twD p34 x.t, dev q32 x.D, rdev p34 la34 x.E] ++ R) := by
          rintro ⟨D, E, t⟩ hIr43
          refine hK76 _ _ ?_
          clear hS; have hS := hIr43; dsimp only at hS ⊢
          refine cseq ?_; intro K77 hK77
          refine cseq ?_; intro K78 hK78
          refine cdraw 37 [(0, true), (1, true), (2, true), (3, true), (5, true), (6, true), (7, true), (8, true), (4, false), (9, true), (10, true), (11, true), (13, true), (14, true), (15, true), (16, true), (12, false), (17, true), (18, true), (19, true), (20, true), (22, true), (23, true), (24, true), (25, true), (21, false), (26, true), (27, true), (28, true), (29, true), (31, true), (32, true), (33, true), (34, true), (30, false), (35, true), (36, true)] (_) Tryz.mixed (by kernel_rfl) .refl ?_
          rcases t with _ | ⟨⟨s1, c1⟩, ⟨s2, c2, lb⟩, W⟩
          ·skip
           refine hr rfl (ev_move rfl) rfl ?_
           refine hr rfl (ev_neqPnil rfl rfl Tryz.underlying28) rfl ?_
           first | (let tt : TwW := some ((s1, c1), (s2, c2, lb), W); have hSl : W.ok D := hS.l) | (let tt : TwW := none)
           refine hr rfl (ev_move rfl) rfl ?_
           refine hr0 rfl rfl rfl rfl rfl ?_
           refine hr0 rfl rfl rfl rfl rfl ?_
           refine hr0 rfl rfl rfl rfl rfl ?_
           refine hr0 rfl rfl rfl rfl rfl ?_
           refine hr0 rfl rfl rfl rfl rfl ?_
           refine ha0 rfl rfl rfl rfl rfl zge ?_
           refine hr0 rfl rfl rfl rfl rfl ?_
           refine hr0 rfl rfl rfl rfl rfl ?_
           refine hr0u rfl rfl rfl rfl ?_
           refine hr0u rfl rfl rfl rfl ?_
           refine hr0u rfl rfl rfl rfl ?_
           refine hr0u rfl rfl rfl rfl ?_
           refine hr0u rfl rfl rfl rfl ?_
           refine ha0u rfl rfl rfl rfl zge ?_
           refine hr0u rfl rfl rfl rfl ?_
           refine hr0 rfl rfl rfl rfl rfl ?_
           refine hr0 rfl rfl rfl rfl rfl ?_
           refine hr0u rfl rfl rfl rfl ?_
           refine hr0u rfl rfl rfl rfl ?_
           refine hr0u rfl rfl rfl rfl ?_
           refine hr0u rfl rfl rfl rfl ?_
           refine hr0u rfl rfl rfl rfl ?_
           refine ha0u rfl rfl rfl rfl zge ?_
           refine hr0u rfl rfl rfl rfl ?_
           refine hr0 rfl rfl rfl rfl rfl ?_
           refine hr0 rfl rfl rfl rfl rfl ?_
           refine hr0u rfl rfl rfl rfl ?_
           refine hr0u rfl rfl rfl rfl ?_
           refine hr0u rfl rfl rfl rfl ?_
           refine hr0u rfl rfl rfl rfl ?_
           refine hr0u rfl rfl rfl rfl ?_
           refine ha0u rfl rfl rfl rfl zge ?_
           refine hr0u rfl rfl rfl rfl ?_
           refine hr0 rfl rfl rfl rfl rfl ?_
           refine hnil ?_
           refine y (ev_pick0 rfl rfl) rfl ?_
           refine hnoP' (kthn (hK78 _ _ ?_))
           clear hK78
           refine ccond0 rfl ?_
           refine cskip' (kthn (hK77 _ _ ?_))
           clear hK77
           refine cseq ?_; intro K79 hK79
           refine creg ?_
           refine y (ev_assign rfl) rfl ?_
           refine ynil' (kthn (hK79 _ _ ?_))
           clear hK79
           refine cblock ?_
           refine cloop (A := Nat) (fun x => [(24, i64 x), (17, i64 z), (15, twV2 tt), (13, twV1 tt), (12, ptr p34), (11, dp q32), (0, i64 n), (1, i64 a), (2, i64 b), (3, i64 wait), (4, lv)]) (fun x => [twA tt, twB q32 tt, twC tt, twL tt, twD p34 tt, dev q32 D, rdev p34 la34 E] ++ R) (fun x => x ≤ 6) (fun x => 6 - x) (0) ?_ zsub zge ?_
           · exact Nat.zero_le _
           rintro s hI3 KL3 hL3
           have hs6 := hI3
           refine cseq ?_; intro K80 hK80
           refine cseq ?_; intro K81 hK81
           refine creg ?_
           refine y (ev_move rfl) rfl ?_
           refine y (ev_move rfl) rfl ?_
           refine y (ev_lss rfl rfl) rfl ?_
           refine y (ev_move rfl) rfl ?_
           refine ysplit 242 rfl (fun h423 => ?_) (fun h423 => ?_)
           ·(try simp only [sH] at h423)
            refine yg1 rfl rfl ?_
            refine y (ev_move rfl) rfl ?_
            refine yg1 rfl rfl ?_
            refine y (ev_lss rfl rfl) rfl ?_
            refine y (ev_pick1 rfl rfl) rfl ?_
            refine ynil' (kthn (hK81 _ _ ?_))
            clear hK81
            refine ccond rfl (fun h427 => ?_) (fun h427 => ?_)
            ·(try simp only [sH] at h427)
             refine cskip' (kthn (hK80 _ _ ?_))
             clear hK80
             refine cseq ?_; intro K82 hK82
             refine cblock ?_
             refine cseq ?_; intro K83 hK83
             refine creg ?_
             refine y (ev_move rfl) rfl ?_
             refine y (ev_move rfl) rfl ?_
             refine ycall (secReadU hS.r.ok) rfl Tryz.call26 ztk rfl ?_
             rintro v L' ⟨s251, rfl, ok251, rfl⟩
             refine y (ev_move rfl) rfl ?_
             refine y (ev_extract rfl rfl) rfl ?_
             refine y (ev_extract rfl rfl) rfl ?_
             refine y (ev_assign rfl) rfl ?_
             refine y (ev_assign rfl) rfl ?_
             refine ynil' (kthn (hK83 _ _ ?_))
             clear hK83
             refine cseq ?_; intro K84 hK84
             refine creg ?_
             refine y (ev_move rfl) rfl ?_
             refine y (ev_move rfl) rfl ?_
             refine ycall (rdReadU hS.r.rok (fun h => by rw [← hS.r.has] at h; obtain ⟨-, q0, q1⟩ := has_zero h; rw [← hS.r.sec q0 q1]; exact sec_length hS.r.ok _)) rfl Tryz.call27 ztk rfl ?_
             rintro v L' ⟨s257, rfl, ok257, rfl⟩
             rw [← hS.r.rdB, ← hS.r.has] at *
             have hb251 : RdB [svSeg s251 5 (bytesV (D.rdB s))] (svVal s251 (D.rdB s).length) (D.rdB s) := rdB_sv .z ok251
             have hb257 : RdB [svSeg s257 5 (bytesV (D.rdB s))] (svVal s257 (D.rdB s).length) (D.rdB s) := rdB_sv .z ok257
             generalize D.rdB s = bs at *
             refine y (ev_move rfl) rfl ?_
             refine y (ev_extract rfl rfl) rfl ?_
             refine y (ev_extract rfl rfl) rfl ?_
             refine y (ev_assign rfl) rfl ?_
             refine y (ev_assign rfl) rfl ?_
             refine ynil' (kthn (hK84 _ _ ?_))
             clear hK84
             refine cseq ?_; intro K85 hK85
             refine creg ?_
             skip
             ·skip
              refine y (ev_move rfl) rfl ?_
              refine y (ev_toStrB hb251 zge rfl Tryz.underlying50 Tryz.underlying9 Tryz.underlying5) rfl ?_
              refine y (ev_move rfl) rfl ?_
              refine y (ev_toStrB hb257 zge rfl Tryz.underlying50 Tryz.underlying9 Tryz.underlying5) rfl ?_
              first
                | refine y (ev_neqL rfl rfl) rfl ?_
                | refine y (ev_neqS rfl rfl) rfl ?_
              rw [show decide (bs ≠ bs) = false by simp]
              refine y (ev_move rfl) rfl ?_
              refine yg1 rfl rfl ?_
              refine y (ev_move rfl) rfl ?_
              refine yg1 rfl rfl ?_
              refine y (ev_move rfl) rfl ?_
              refine yg1 rfl rfl ?_
              refine y (ev_neq rfl rfl) rfl ?_
              rw [show (!decide (D.has s = D.has s)) = false by simp]
              refine y (ev_pick0 rfl rfl) rfl ?_
              refine ynil' (kthn (hK85 _ _ ?_))
              clear hK85
              refine ccond0 rfl ?_
              refine cskip' (kbn (kthn (hK82 _ _ ?_)))
              clear hK82
              refine creg ?_
              refine y (ev_move rfl) rfl ?_
              refine y (ev_add rfl rfl) rfl ?_
              rw [show IntKind.i64.wrap ((s:Int) + 1) = ((s+1 : Nat) : Int) by rw [wr (by omega) (by omega)]; rfl]
              refine y (ev_assign rfl) rfl ?_
              refine ynil' (kthn ?_)
              exact hL3 (s + 1) (by first | omega | (dsimp only; omega)) (by omega) _ _ zsub zge
            ·(try simp only [sH] at h427)
             refine cexit (kthx (kthx (kbx (kbn (kthn (hK71 _ _ ?_))))))
             clear hK71
             refine creg ?_
             refine y (ev_move rfl) rfl ?_
             refine y (ev_add rfl rfl) rfl ?_
             rw [show IntKind.i64.wrap ((z:Int) + 1) = ((z+1 : Nat) : Int) by rw [wr (by omega) (by omega)]; rfl]
             refine y (ev_assign rfl) rfl ?_
             refine ynil' (kthn ?_)
             first | exact hL1 (z + 1, ⟨D, E, tt⟩) ⟨hS, by dsimp only; omega, by dsimp only; omega⟩ (by dsimp only; omega) _ _ zsub zge | exact hL1 (z + 1, ⟨D, E, none⟩) ⟨hS, by dsimp only; omega, by dsimp only; omega⟩ (by dsimp only; omega) _ _ zsub zge
           ·(try simp only [sH] at h423)
            refine yg0 rfl rfl rfl rfl ?_
            refine yg0 rfl rfl rfl rfl ?_
            refine y (ev_pick0 rfl rfl) rfl ?_
            refine ynil' (kthn (hK81 _ _ ?_))
            clear hK81
            refine ccond0 rfl ?_
            refine cexit (kthx (kthx (kbx (kbn (kthn (hK71 _ _ ?_))))))
            clear hK71
            refine creg ?_
            refine y (ev_move rfl) rfl ?_
            refine y (ev_add rfl rfl) rfl ?_
            rw [show IntKind.i64.wrap ((z:Int) + 1) = ((z+1 : Nat) : Int) by rw [wr (by omega) (by omega)]; rfl]
            refine y (ev_assign rfl) rfl ?_
            refine ynil' (kthn ?_)
            first | exact hL1 (z + 1, ⟨D, E, tt⟩) ⟨hS, by dsimp only; omega, by dsimp only; omega⟩ (by dsimp only; omega) _ _ zsub zge | exact hL1 (z + 1, ⟨D, E, none⟩) ⟨hS, by dsimp only; omega, by dsimp only; omega⟩ (by dsimp only; omega) _ _ zsub zge
          ·skip
           refine hr rfl (ev_move rfl) rfl ?_
           refine hr rfl (ev_neqPnil rfl rfl Tryz.underlying28) rfl ?_
           first | (let tt : TwW := some ((s1, c1), (s2, c2, lb), W); have hSl : W.ok D := hS.l) | (let tt : TwW := none)
           refine hr rfl (ev_move rfl) rfl ?_
           refine hr1 rfl rfl rfl (ev_move rfl) rfl ?_
           refine hr1 rfl rfl rfl (ev_move rfl) rfl ?_
           refine hr1 rfl rfl rfl (ev_nil rfl) rfl ?_
           refine hr1 rfl rfl rfl (ev_fieldAddr 1 rfl Tryz.underlying55 rfl Tryz.sizeOf2) rfl ?_
           refine hr1 rfl rfl rfl (ev_load rfl Tryz.isAgg2 zin rfl) rfl ?_
           refine hcall1 rfl rfl rfl (wEpoch) rfl Tryz.call22 ztk rfl ?_
           rintro v L' ⟨rfl, rfl⟩; refine ⟨zge, ?_⟩
           refine hr1 rfl rfl rfl (ev_neq rfl rfl) rfl ?_
           rw [show (!decide (W.f.epoch = W.f.epoch)) = false by simp]
           refine hr1 rfl rfl rfl (ev_move rfl) rfl ?_
           refine hr1 rfl rfl rfl (ev_move rfl) rfl ?_
           refine hr1 rfl rfl rfl (ev_move rfl) rfl ?_
           refine hr1 rfl rfl rfl (ev_nil rfl) rfl ?_
           refine hr1 rfl rfl rfl (ev_fieldAddr 2 rfl Tryz.underlying55 rfl Tryz.sizeOf3) rfl ?_
           refine hr1 rfl rfl rfl (ev_load rfl Tryz.isAgg3 zin rfl) rfl ?_
           refine hcall1 rfl rfl rfl (wHolder) rfl Tryz.call23 ztk rfl ?_
           rintro v L' ⟨rfl, rfl⟩; refine ⟨zge, ?_⟩
           refine hr1 rfl rfl rfl (ev_neq rfl rfl) rfl ?_
           rw [show (!decide (W.f.holder = W.f.holder)) = false by simp]
           refine hr1 rfl rfl rfl (ev_pick0 rfl rfl) rfl ?_
           refine hr1 rfl rfl rfl (ev_move rfl) rfl ?_
           refine hr1 rfl rfl rfl (ev_move rfl) rfl ?_
           refine hr1 rfl rfl rfl (ev_move rfl) rfl ?_
           refine hr1 rfl rfl rfl (ev_nil rfl) rfl ?_
           refine hr1 rfl rfl rfl (ev_fieldAddr 3 rfl Tryz.underlying55 rfl Tryz.sizeOf3) rfl ?_
           refine hr1 rfl rfl rfl (ev_load rfl Tryz.isAgg3 zin rfl) rfl ?_
           refine hcall1 rfl rfl rfl (wMask) rfl Tryz.call24 ztk rfl ?_
           rintro v L' ⟨rfl, rfl⟩; refine ⟨zge, ?_⟩
           refine hr1 rfl rfl rfl (ev_neq rfl rfl) rfl ?_
           rw [show (!decide (W.f.mask = W.f.mask)) = false by simp]
           refine hr1 rfl rfl rfl (ev_pick0 rfl rfl) rfl ?_
           refine hr1 rfl rfl rfl (ev_move rfl) rfl ?_
           refine hr1 rfl rfl rfl (ev_move rfl) rfl ?_
           refine hr1 rfl rfl rfl (ev_move rfl) rfl ?_
           refine hr1 rfl rfl rfl (ev_nil rfl) rfl ?_
           refine hr1 rfl rfl rfl (ev_fieldAddr 6 rfl Tryz.underlying55 rfl Tryz.sizeOf2) rfl ?_
           refine hr1 rfl rfl rfl (ev_load rfl Tryz.isAgg2 zin rfl) rfl ?_
           refine hcall1 rfl rfl rfl (wLeft) rfl Tryz.call25 ztk rfl ?_
           rintro v L' ⟨rfl, rfl⟩; refine ⟨zge, ?_⟩
           refine hr1 rfl rfl rfl (ev_neq rfl rfl) rfl ?_
           rw [show (!decide (W.left = W.left)) = false by simp]
           refine hr1 rfl rfl rfl (ev_pick0 rfl rfl) rfl ?_
           refine hnil ?_
           refine y (ev_pick1 rfl rfl) rfl ?_
           refine hnoP' (kthn (hK78 _ _ ?_))
           clear hK78
           refine ccond0 rfl ?_
           refine cskip' (kthn (hK77 _ _ ?_))
           clear hK77
           refine cseq ?_; intro K86 hK86
           refine creg ?_
           refine y (ev_assign rfl) rfl ?_
           refine ynil' (kthn (hK86 _ _ ?_))
           clear hK86
           refine cblock ?_
           refine cloop (A := Nat) (fun x => [(24, i64 x), (17, i64 z), (15, twV2 tt), (13, twV1 tt), (12, ptr p34), (11, dp q32), (0, i64 n), (1, i64 a), (2, i64 b), (3, i64 wait), (4, lv)]) (fun x => [twA tt, twB q32 tt, twC tt, twL tt, twD p34 tt, dev q32 D, rdev p34 la34 E] ++ R) (fun x => x ≤ 6) (fun x => 6 - x) (0) ?_ zsub zge ?_
           · exact Nat.zero_le _
           rintro s hI3 KL3 hL3
           have hs6 := hI3
           refine cseq ?_; intro K87 hK87
           refine cseq ?_; intro K88 hK88
           refine creg ?_
           refine y (ev_move rfl) rfl ?_
           refine y (ev_move rfl) rfl ?_
           refine y (ev_lss rfl rfl) rfl ?_
           refine y (ev_move rfl) rfl ?_
           refine ysplit 242 rfl (fun h507 => ?_) (fun h507 => ?_)
           ·(try simp only [sH] at h507)
            refine yg1 rfl rfl ?_
            refine y (ev_move rfl) rfl ?_
            refine yg1 rfl rfl ?_
            refine y (ev_lss rfl rfl) rfl ?_
            refine y (ev_pick1 rfl rfl) rfl ?_
            refine ynil' (kthn (hK88 _ _ ?_))
            clear hK88
            refine ccond rfl (fun h511 => ?_) (fun h511 => ?_)
            ·(try simp only [sH] at h511)
             refine cskip' (kthn (hK87 _ _ ?_))
             clear hK87
             refine cseq ?_; intro K89 hK89
             refine cblock ?_
             refine cseq ?_; intro K90 hK90
             refine creg ?_
             refine y (ev_move rfl) rfl ?_
             refine y (ev_move rfl) rfl ?_
             refine ycall (secReadU hS.r.ok) rfl Tryz.call26 ztk rfl ?_
             rintro v L' ⟨s251, rfl, ok251, rfl⟩
             refine y (ev_move rfl) rfl ?_
             refine y (ev_extract rfl rfl) rfl ?_
             refine y (ev_extract rfl rfl) rfl ?_
             refine y (ev_assign rfl) rfl ?_
             refine y (ev_assign rfl) rfl ?_
             refine ynil' (kthn (hK90 _ _ ?_))
             clear hK90
             refine cseq ?_; intro K91 hK91
             refine creg ?_
             refine y (ev_move rfl) rfl ?_
             refine y (ev_move rfl) rfl ?_
             refine ycall (rdReadU hS.r.rok (fun h => by rw [← hS.r.has] at h; obtain ⟨-, q0, q1⟩ := has_zero h; rw [← hS.r.sec q0 q1]; exact sec_length hS.r.ok _)) rfl Tryz.call27 ztk rfl ?_
             rintro v L' ⟨s257, rfl, ok257, rfl⟩
             rw [← hS.r.rdB, ← hS.r.has] at *
             have hb251 : RdB [svSeg s251 5 (bytesV (D.rdB s))] (svVal s251 (D.rdB s).length) (D.rdB s) := rdB_sv .z ok251
             have hb257 : RdB [svSeg s257 5 (bytesV (D.rdB s))] (svVal s257 (D.rdB s).length) (D.rdB s) := rdB_sv .z ok257
             generalize D.rdB s = bs at *
             refine y (ev_move rfl) rfl ?_
             refine y (ev_extract rfl rfl) rfl ?_
             refine y (ev_extract rfl rfl) rfl ?_
             refine y (ev_assign rfl) rfl ?_
             refine y (ev_assign rfl) rfl ?_
             refine ynil' (kthn (hK91 _ _ ?_))
             clear hK91
             refine cseq ?_; intro K92 hK92
             refine creg ?_
             skip
             ·skip
              refine y (ev_move rfl) rfl ?_
              refine y (ev_toStrB hb251 zge rfl Tryz.underlying50 Tryz.underlying9 Tryz.underlying5) rfl ?_
              refine y (ev_move rfl) rfl ?_
              refine y (ev_toStrB hb257 zge rfl Tryz.underlying50 Tryz.underlying9 Tryz.underlying5) rfl ?_
              first
                | refine y (ev_neqL rfl rfl) rfl ?_
                | refine y (ev_neqS rfl rfl) rfl ?_
              rw [show decide (bs ≠ bs) = false by simp]
              refine y (ev_move rfl) rfl ?_
              refine yg1 rfl rfl ?_
              refine y (ev_move rfl) rfl ?_
              refine yg1 rfl rfl ?_
              refine y (ev_move rfl) rfl ?_
              refine yg1 rfl rfl ?_
              refine y (ev_neq rfl rfl) rfl ?_
              rw [show (!decide (D.has s = D.has s)) = false by simp]
              refine y (ev_pick0 rfl rfl) rfl ?_
              refine ynil' (kthn (hK92 _ _ ?_))
              clear hK92
              refine ccond0 rfl ?_
              refine cskip' (kbn (kthn (hK89 _ _ ?_)))
              clear hK89
              refine creg ?_
              refine y (ev_move rfl) rfl ?_
              refine y (ev_add rfl rfl) rfl ?_
              rw [show IntKind.i64.wrap ((s:Int) + 1) = ((s+1 : Nat) : Int) by rw [wr (by omega) (by omega)]; rfl]
              refine y (ev_assign rfl) rfl ?_
              refine ynil' (kthn ?_)
              exact hL3 (s + 1) (by first | omega | (dsimp only; omega)) (by omega) _ _ zsub zge
            ·(try simp only [sH] at h511)
             refine cexit (kthx (kthx (kbx (kbn (kthn (hK71 _ _ ?_))))))
             clear hK71
             refine creg ?_
             refine y (ev_move rfl) rfl ?_
             refine y (ev_add rfl rfl) rfl ?_
             rw [show IntKind.i64.wrap ((z:Int) + 1) = ((z+1 : Nat) : Int) by rw [wr (by omega) (by omega)]; rfl]
             refine y (ev_assign rfl) rfl ?_
             refine ynil' (kthn ?_)
             first | exact hL1 (z + 1, ⟨D, E, tt⟩) ⟨hS, by dsimp only; omega, by dsimp only; omega⟩ (by dsimp only; omega) _ _ zsub zge | exact hL1 (z + 1, ⟨D, E, none⟩) ⟨hS, by dsimp only; omega, by dsimp only; omega⟩ (by dsimp only; omega) _ _ zsub zge
           ·(try simp only [sH] at h507)
            refine yg0 rfl rfl rfl rfl ?_
            refine yg0 rfl rfl rfl rfl ?_
            refine y (ev_pick0 rfl rfl) rfl ?_
            refine ynil' (kthn (hK88 _ _ ?_))
            clear hK88
            refine ccond0 rfl ?_
            refine cexit (kthx (kthx (kbx (kbn (kthn (hK71 _ _ ?_))))))
            clear hK71
            refine creg ?_
            refine y (ev_move rfl) rfl ?_
            refine y (ev_add rfl rfl) rfl ?_
            rw [show IntKind.i64.wrap ((z:Int) + 1) = ((z+1 : Nat) : Int) by rw [wr (by omega) (by omega)]; rfl]
            refine y (ev_assign rfl) rfl ?_
            refine ynil' (kthn ?_)
            first | exact hL1 (z + 1, ⟨D, E, tt⟩) ⟨hS, by dsimp only; omega, by dsimp only; omega⟩ (by dsimp only; omega) _ _ zsub zge | exact hL1 (z + 1, ⟨D, E, none⟩) ⟨hS, by dsimp only; omega, by dsimp only; omega⟩ (by dsimp only; omega) _ _ zsub zge
         clear hK76
         refine cseq ?_; intro K93 hK93
         refine creg ?_
         refine y (ev_fieldAddr 0 rfl Tryz.underlying40 rfl Tryz.sizeOf3) rfl ?_
         refine y (ev_load rfl Tryz.isAgg3 zin rfl) rfl ?_
         refine ynil' (kthn (hK93 _ _ ?_))
         clear hK93
         refine cblock ?_
         refine cseq ?_; intro K94 hK94
         refine creg ?_
         refine y (ev_eql rfl rfl) rfl ?_
         refine y (ev_assign rfl) rfl ?_
         refine ynil' (kthn (hK94 _ _ ?_))
         clear hK94
         refine ccond rfl (fun h552 => ?_) (fun h552 => ?_)
         ·(try simp only [sH] at h552)
          refine cseq ?_; intro K95 hK95
          refine cseq ?_; intro K96 hK96
          refine creg ?_
          rcases t with _ | ⟨⟨s1, c1⟩, ⟨s2, c2, lb⟩, W⟩
          ·skip
           refine y (ev_move rfl) rfl ?_
           refine y (ev_eqlPnil rfl rfl Tryz.underlying28) rfl ?_
           refine ynil' (kthn (hK96 _ _ ?_))
           clear hK96
           refine ccond1 rfl ?_
           refine cexit (kthx (kbp rfl (kthx (kbx (kthn (hK71 _ _ ?_))))))
           clear hK71
           refine creg ?_
           refine y (ev_move rfl) rfl ?_
           refine y (ev_add rfl rfl) rfl ?_
           rw [show IntKind.i64.wrap ((z:Int) + 1) = ((z+1 : Nat) : Int) by rw [wr (by omega) (by omega)]; rfl]
           refine y (ev_assign rfl) rfl ?_
           refine ynil' (kthn ?_)
           first | exact hL1 (z + 1, ⟨D, E, tt⟩) ⟨hS, by dsimp only; omega, by dsimp only; omega⟩ (by dsimp only; omega) _ _ zsub zge | exact hL1 (z + 1, ⟨D, E, none⟩) ⟨hS, by dsimp only; omega, by dsimp only; omega⟩ (by dsimp only; omega) _ _ zsub zge
          ·skip
           refine y (ev_move rfl) rfl ?_
           refine y (ev_eqlPnil rfl rfl Tryz.underlying28) rfl ?_
           refine ynil' (kthn (hK96 _ _ ?_))
           clear hK96
           refine ccond0 rfl ?_
           refine cskip' (kthn (hK95 _ _ ?_))
           clear hK95
           refine cseq ?_; intro K97 hK97
           refine creg ?_
           refine y (ev_move rfl) rfl ?_
           refine y (ev_fieldAddr 2 rfl Tryz.underlying40 rfl Tryz.sizeOf3) rfl ?_
           refine y (ev_load rfl Tryz.isAgg3 zin rfl) rfl ?_
           refine y (ev_fieldAddr 3 rfl Tryz.underlying40 rfl Tryz.sizeOf37) rfl ?_
           refine y (ev_loadN (u := yy.m.cells) rfl Tryz.isAgg37 Tryz.sizeOf37 zin rfl rfl) rfl ?_
           refine ycall (wTake (m := yy.m) ?wok565) rfl Tryz.call11 ztk rfl ?_
           case wok565 => exact hS.l
           rintro v L' ⟨rfl, rfl⟩
           refine y (ev_move rfl) rfl ?_
           refine y (ev_extract rfl rfl) rfl ?_
           refine y (ev_extract rfl rfl) rfl ?_
           refine ya (ac_alloc Tryz.zeroValue37 rfl) rfl ?_
           rintro v L' ⟨b19, rfl, rfl⟩
           refine ya0 (ac_storeN rfl rfl (msg_one _) Tryz.sizeOf37 zrp rfl (by simp [MsgM.cells]) rfl) ?_
           rintro v L' ⟨rfl, rfl⟩
           refine y (ev_assign rfl) rfl ?_
           refine ynil' (kthn (hK97 _ _ ?_))
           clear hK97
           refine cseq ?_; intro K98 hK98
           refine creg ?_
           refine y (ev_move rfl) rfl ?_
           refine y (ev_fieldAddr 2 rfl Tryz.underlying40 rfl Tryz.sizeOf3) rfl ?_
           refine y (ev_load rfl Tryz.isAgg3 zin rfl) rfl ?_
           refine y (ev_fieldAddr 3 rfl Tryz.underlying40 rfl Tryz.sizeOf37) rfl ?_
           refine y (ev_loadN (u := yy.m.cells) rfl Tryz.isAgg37 Tryz.sizeOf37 zin rfl rfl) rfl ?_
           refine ycall (xTake (m := yy.m) ?wok577) rfl Tryz.call12 ztk rfl ?_
           case wok577 => exact rw_ok hS.l hS.r
           rintro v L' ⟨z110, rfl, rfl⟩
           obtain ⟨e1, e2, e3⟩ := WitM.takeR_rel hS.r (W := W) hS.l.wait.1 yy.fr yy.m
           rw [← e1, ← e2]
           have hSn := WdM.ok.of (z := ((s1, c1), (s2, c2, z110), (W.take D yy.fr yy.m).2.1)) e3 ((WitM.take_l yy.fr yy.m).trans hS.len) (WitM.take_ok hS.l yy.fr yy.m)
           generalize W.take D yy.fr yy.m = r at *
           refine y (ev_move rfl) rfl ?_
           refine y (ev_extract rfl rfl) rfl ?_
           refine y (ev_extract rfl rfl) rfl ?_
           refine ya (ac_alloc Tryz.zeroValue37 rfl) rfl ?_
           rintro v L' ⟨b21, rfl, rfl⟩
           refine ya0 (ac_storeN rfl rfl (msg_one _) Tryz.sizeOf37 zrp rfl (by simp [MsgM.cells]) rfl) ?_
           rintro v L' ⟨rfl, rfl⟩
           refine y (ev_assign rfl) rfl ?_
           refine ynil' (kthn (hK98 _ _ ?_))
           clear hK98
           refine cseq ?_; intro K99 hK99
           refine creg ?_
           skip
           ·skip
            refine y (ev_loadN (u := r.1.1.cells) rfl Tryz.isAgg37 Tryz.sizeOf37 zin rfl rfl) rfl ?_
            refine y (ev_loadN (u := r.1.1.cells) rfl Tryz.isAgg37 Tryz.sizeOf37 zin rfl rfl) rfl ?_
            refine y (ev_neqF (p := True) rfl rfl (by kernel_rfl) (by simp)) rfl ?_
            rw [show (!decide True) = false by simp]
            refine y (ev_move rfl) rfl ?_
            refine yg1 rfl rfl ?_
            refine y (ev_move rfl) rfl ?_
            refine yg1 rfl rfl ?_
            refine y (ev_move rfl) rfl ?_
            refine yg1 rfl rfl ?_
            refine y (ev_neqB rfl rfl Tryz.underlying4) rfl ?_
            rw [show (!(r.1.2 == r.1.2)) = false by simp]
            refine y (ev_pick0 rfl rfl) rfl ?_
            refine ynil' (kthn (hK99 _ _ ?_))
            clear hK99
            refine ccond0 rfl ?_
            refine cskip' (kbn (kthn ?_))
            first | (have hSn1 := hSn; exact ksub zsub zge (hJr43 _ hSn1)) | exact ksub zsub zge (hJr43 _ hS)
         ·(try simp only [sH] at h552)
          refine cseq ?_; intro K100 hK100
          refine creg ?_
          refine y (ev_eql rfl rfl) rfl ?_
          refine y (ev_assign rfl) rfl ?_
          refine ynil' (kthn (hK100 _ _ ?_))
          clear hK100
          refine ccond rfl (fun h594 => ?_) (fun h594 => ?_)
          ·(try simp only [sH] at h594)
           refine cseq ?_; intro K101 hK101
           refine creg ?_
           refine y (ev_assign rfl) rfl ?_
           refine ynil' (kthn (hK101 _ _ ?_))
           clear hK101
           refine cblock ?_
           refine cloop (A := Nat × TwW) (fun x => [(23, i64 x.1), (18, ptr b18), (17, i64 z), (15, twV2 x.2), (13, twV1 x.2), (12, ptr p34), (11, dp q32), (0, i64 n), (1, i64 a), (2, i64 b), (3, i64 wait), (4, lv)]) (fun x => [sc b18 yy.cells 40, twA x.2, twB q32 x.2, twC x.2, twL x.2, twD p34 x.2, dev q32 D, rdev p34 la34 E] ++ R) (fun x => WdM.ok ⟨D, E, x.2⟩ n.toNat ∧ x.1 ≤ (yy.n.tmod 50).toNat ∧ x.1 ≤ 50) (fun x => (yy.n.tmod 50).toNat - x.1) ((0, t)) ?_ zsub zge ?_
           · exact ⟨hS, Nat.zero_le _, Nat.zero_le _⟩
           rintro ⟨k, t⟩ hI2 KL2 hL2
           have hI2o := hI2
           obtain ⟨hS, hk, hk50⟩ := hI2; dsimp only at hS hk hk50 ⊢; obtain ⟨ht1, ht2, ht3⟩ := tmod50 yy.n
           refine cseq ?_; intro K102 hK102
           refine cseq ?_; intro K103 hK103
           refine creg ?_
           rcases t with _ | ⟨⟨s1, c1⟩, ⟨s2, c2, lb⟩, W⟩
           ·skip
            refine y (ev_move rfl) rfl ?_
            refine y (ev_fieldAddr 1 rfl Tryz.underlying40 rfl Tryz.sizeOf3) rfl ?_
            refine y (ev_load rfl Tryz.isAgg3 zin rfl) rfl ?_
            refine y (ev_rem rfl rfl (by decide)) rfl ?_
            refine y (ev_lss rfl rfl) rfl ?_
            refine y (ev_move rfl) rfl ?_
            refine ysplit 128 rfl (fun h602 => ?_) (fun h602 => ?_)
            ·(try simp only [sH] at h602)
             refine yg1 rfl rfl ?_
             refine y (ev_move rfl) rfl ?_
             refine yg1 rfl rfl ?_
             refine y (ev_neqPnil rfl rfl Tryz.underlying28) rfl ?_
             refine y (ev_pick1 rfl rfl) rfl ?_
             refine ynil' (kthn (hK103 _ _ ?_))
             clear hK103
             refine ccond0 rfl ?_
             refine cexit (kthx (kthx (kbx (kbn (kthn ?_)))))
             first | (have hSn1 := hSn; exact ksub zsub zge (hJr43 _ hSn1)) | exact ksub zsub zge (hJr43 _ hS)
            ·(try simp only [sH] at h602)
             refine yg0 rfl rfl rfl rfl ?_
             refine yg0 rfl rfl rfl rfl ?_
             refine y (ev_pick0 rfl rfl) rfl ?_
             refine ynil' (kthn (hK103 _ _ ?_))
             clear hK103
             refine ccond0 rfl ?_
             refine cexit (kthx (kthx (kbx (kbn (kthn ?_)))))
             first | (have hSn1 := hSn; exact ksub zsub zge (hJr43 _ hSn1)) | exact ksub zsub zge (hJr43 _ hS)
           ·skip
            refine y (ev_move rfl) rfl ?_
            refine y (ev_fieldAddr 1 rfl Tryz.underlying40 rfl Tryz.sizeOf3) rfl ?_
            refine y (ev_load rfl Tryz.isAgg3 zin rfl) rfl ?_
            refine y (ev_rem rfl rfl (by decide)) rfl ?_
            refine y (ev_lss rfl rfl) rfl ?_
            refine y (ev_move rfl) rfl ?_
            refine ysplit 128 rfl (fun h613 => ?_) (fun h613 => ?_)
            ·(try simp only [sH] at h613)
             refine yg1 rfl rfl ?_
             refine y (ev_move rfl) rfl ?_
             refine yg1 rfl rfl ?_
             refine y (ev_neqPnil rfl rfl Tryz.underlying28) rfl ?_
             refine y (ev_pick1 rfl rfl) rfl ?_
             refine ynil' (kthn (hK103 _ _ ?_))
             clear hK103
             refine ccond1 rfl ?_
             refine cskip' (kthn (hK102 _ _ ?_))
             clear hK102
             refine cseq ?_; intro K104 hK104
             refine cblock ?_
             refine cseq ?_; intro K105 hK105
             refine creg ?_
             refine y (ev_move rfl) rfl ?_
             refine ycall (wTick ?lf618) rfl Tryz.call13 ztk rfl ?_
             case lf618 => exact hS.l.left
             rintro v L' ⟨rfl, rfl⟩
             refine ynil' (kthn (hK105 _ _ ?_))
             clear hK105
             refine creg ?_
             refine y (ev_move rfl) rfl ?_
             refine ycall (xTick ?lf620) rfl Tryz.call14 ztk rfl ?_
             case lf620 => exact hS.l.left
             rintro v L' ⟨rfl, rfl⟩
             refine ynil' (kbn (kthn (hK104 _ _ ?_)))
             clear hK104
             refine creg ?_
             refine y (ev_move rfl) rfl ?_
             refine y (ev_add rfl rfl) rfl ?_
             rw [show IntKind.i64.wrap ((k:Int) + 1) = ((k+1 : Nat) : Int) by rw [wr (by omega) (by omega)]; rfl]
             refine y (ev_assign rfl) rfl ?_
             refine ynil' (kthn ?_)
             exact hL2 (k + 1, some ((s1, c1), (s2, c2, lb), W.tick)) ⟨hS.tick, by dsimp only; omega, by dsimp only; omega⟩ (by dsimp only; omega) _ _ zsub zge
            ·(try simp only [sH] at h613)
             refine yg0 rfl rfl rfl rfl ?_
             refine yg0 rfl rfl rfl rfl ?_
             refine y (ev_pick0 rfl rfl) rfl ?_
             refine ynil' (kthn (hK103 _ _ ?_))
             clear hK103
             refine ccond0 rfl ?_
             refine cexit (kthx (kthx (kbx (kbn (kthn ?_)))))
             first | (have hSn1 := hSn; exact ksub zsub zge (hJr43 _ hSn1)) | exact ksub zsub zge (hJr43 _ hS)
          ·(try simp only [sH] at h594)
           refine cseq ?_; intro K106 hK106
           refine creg ?_
           refine y (ev_eql rfl rfl) rfl ?_
           refine y (ev_assign rfl) rfl ?_
           refine ynil' (kthn (hK106 _ _ ?_))
           clear hK106
           refine ccond rfl (fun h627 => ?_) (fun h627 => ?_)
           ·(try simp only [sH] at h627)
            refine cseq ?_; intro K107 hK107
            refine creg ?_
            refine y (ev_move rfl) rfl ?_
            refine y (ev_fieldAddr 17 rfl Tryz.underlying40 rfl Tryz.sizeOf38) rfl ?_
            refine y (ev_load rfl Tryz.isAgg38 zin rfl) rfl ?_
            refine ycall (secCrash (ks := yy.ks) ?ok631 ?ks631) rfl Tryz.call15 ztk rfl ?_
            case ok631 => first | exact hS.r.ok | exact hS.r.rok
            case ks631 => exact hact.keeps.mono zge
            rintro v L' ⟨rfl, rfl⟩
            refine ynil' (kthn (hK107 _ _ ?_))
            clear hK107
            refine cseq ?_; intro K108 hK108
            refine creg ?_
            refine y (ev_move rfl) rfl ?_
            refine y (ev_fieldAddr 17 rfl Tryz.underlying40 rfl Tryz.sizeOf38) rfl ?_
            refine y (ev_load rfl Tryz.isAgg38 zin rfl) rfl ?_
            refine ycall (xKeeps (ks := yy.ks) ?ks635 ?six635) rfl Tryz.call17 ztk rfl ?_
            case ks635 => exact hact.keeps.mono zge
            case six635 => omega
            rintro v L' ⟨s147, rfl, ok147, rfl⟩
            refine ycall (rdCrash (ks := yy.ks) ?ok636 ?ks636) rfl Tryz.call16 ztk rfl ?_
            case ok636 => first | exact hS.r.ok | exact hS.r.rok
            case ks636 => exact rdV_sv zin ok147
            rintro v L' ⟨rfl, rfl⟩
            refine ynil' (kthn (hK108 _ _ ?_))
            clear hK108
            refine cseq ?_; intro K109 hK109
            refine creg ?_
            have hR1 := hS.r.crash yy.ks
            have hl1 : (D.crash yy.ks).l.length = n.toNat := by rw [← hS.len]; simp [Dev.crash, crashL_length]
            generalize D.crash yy.ks = D1 at *
            generalize E.crash yy.ks = E1 at *
            refine y (ev_move rfl) rfl ?_
            refine y (ev_move rfl) rfl ?_
            refine y (ev_move rfl) rfl ?_
            refine y (ev_move rfl) rfl ?_
            by_cases ho1 : witE D1 a b wait = 0
            ·skip
             first | (refine ycall (wOpenOkZ hR1.ok ho1) rfl Tryz.call8 ztk rfl ?_; rintro v L' ⟨s52, c52, rfl, rfl⟩) | (refine ycall (wOpenBad hR1.ok rfl ho1) rfl Tryz.call8 ztk rfl ?_; rintro v L' ⟨rfl, rfl⟩)
             refine y (ev_move rfl) rfl ?_
             refine y (ev_extract rfl rfl) rfl ?_
             refine y (ev_extract rfl rfl) rfl ?_
             refine y (ev_assign rfl) rfl ?_
             refine y (ev_assign rfl) rfl ?_
             refine ynil' (kthn (hK109 _ _ ?_))
             clear hK109
             refine cseq ?_; intro K110 hK110
             refine creg ?_
             refine y (ev_move rfl) rfl ?_
             refine y (ev_move rfl) rfl ?_
             refine y (ev_move rfl) rfl ?_
             refine y (ev_move rfl) rfl ?_
             first | (refine ycall (xOpenOk hR1 ho1) rfl Tryz.call9 ztk rfl ?_; rintro v L' ⟨s60, c60, b60, rfl, rfl⟩; have hSn := WdM.ok.of (z := ((s52, c52), (s60, c60, b60), witO D1 a b wait)) hR1 hl1 (witO_ok hR1.ok ho1)) | (refine ycall (xOpenBad hR1 ho1) rfl Tryz.call9 ztk rfl ?_; rintro v L' ⟨rfl, rfl⟩; have hSn := WdM.ok.none' hR1 hl1)
             refine y (ev_move rfl) rfl ?_
             refine y (ev_extract rfl rfl) rfl ?_
             refine y (ev_extract rfl rfl) rfl ?_
             refine y (ev_assign rfl) rfl ?_
             refine y (ev_assign rfl) rfl ?_
             refine ynil' (kthn (hK110 _ _ ?_))
             clear hK110
             refine cseq ?_; intro K111 hK111
             refine creg ?_
             refine y (ev_move rfl) rfl ?_
             refine y (ev_move rfl) rfl ?_
             refine y (ev_neq rfl rfl) rfl ?_
             try rw [show (!decide (witE D1 a b wait = witE D1 a b wait)) = false by simp]
             refine y (ev_move rfl) rfl ?_
             refine yg1 rfl rfl ?_
             refine y (ev_move rfl) rfl ?_
             refine yg1 rfl rfl ?_
             refine y (ev_eqlPnil rfl rfl Tryz.underlying28) rfl ?_
             refine yg1 rfl rfl ?_
             refine y (ev_move rfl) rfl ?_
             refine yg1 rfl rfl ?_
             refine y (ev_eqlPnil rfl rfl Tryz.underlying32) rfl ?_
             refine yg1 rfl rfl ?_
             refine y (ev_neqB rfl rfl Tryz.underlying4) rfl ?_
             refine y (ev_pick0 rfl rfl) rfl ?_
             refine ynil' (kthn (hK111 _ _ ?_))
             clear hK111
             refine ccond0 rfl ?_
             refine cskip' (kbn (kthn ?_))
             first | (have hSn1 := hSn; exact ksub zsub zge (hJr43 _ hSn1)) | exact ksub zsub zge (hJr43 _ hS)
            ·skip
             first | (refine ycall (wOpenOkZ hR1.ok ho1) rfl Tryz.call8 ztk rfl ?_; rintro v L' ⟨s52, c52, rfl, rfl⟩) | (refine ycall (wOpenBad hR1.ok rfl ho1) rfl Tryz.call8 ztk rfl ?_; rintro v L' ⟨rfl, rfl⟩)
             refine y (ev_move rfl) rfl ?_
             refine y (ev_extract rfl rfl) rfl ?_
             refine y (ev_extract rfl rfl) rfl ?_
             refine y (ev_assign rfl) rfl ?_
             refine y (ev_assign rfl) rfl ?_
             refine ynil' (kthn (hK109 _ _ ?_))
             clear hK109
             refine cseq ?_; intro K112 hK112
             refine creg ?_
             refine y (ev_move rfl) rfl ?_
             refine y (ev_move rfl) rfl ?_
             refine y (ev_move rfl) rfl ?_
             refine y (ev_move rfl) rfl ?_
             first | (refine ycall (xOpenOk hR1 ho1) rfl Tryz.call9 ztk rfl ?_; rintro v L' ⟨s60, c60, b60, rfl, rfl⟩; have hSn := WdM.ok.of (z := ((s52, c52), (s60, c60, b60), witO D1 a b wait)) hR1 hl1 (witO_ok hR1.ok ho1)) | (refine ycall (xOpenBad hR1 ho1) rfl Tryz.call9 ztk rfl ?_; rintro v L' ⟨rfl, rfl⟩; have hSn := WdM.ok.none' hR1 hl1)
             refine y (ev_move rfl) rfl ?_
             refine y (ev_extract rfl rfl) rfl ?_
             refine y (ev_extract rfl rfl) rfl ?_
             refine y (ev_assign rfl) rfl ?_
             refine y (ev_assign rfl) rfl ?_
             refine ynil' (kthn (hK112 _ _ ?_))
             clear hK112
             refine cseq ?_; intro K113 hK113
             refine creg ?_
             refine y (ev_move rfl) rfl ?_
             refine y (ev_move rfl) rfl ?_
             refine y (ev_neq rfl rfl) rfl ?_
             try rw [show (!decide (witE D1 a b wait = witE D1 a b wait)) = false by simp]
             refine y (ev_move rfl) rfl ?_
             refine yg1 rfl rfl ?_
             refine y (ev_move rfl) rfl ?_
             refine yg1 rfl rfl ?_
             refine y (ev_eqlPnil rfl rfl Tryz.underlying28) rfl ?_
             refine yg1 rfl rfl ?_
             refine y (ev_move rfl) rfl ?_
             refine yg1 rfl rfl ?_
             refine y (ev_eqlPnil rfl rfl Tryz.underlying32) rfl ?_
             refine yg1 rfl rfl ?_
             refine y (ev_neqB rfl rfl Tryz.underlying4) rfl ?_
             refine y (ev_pick0 rfl rfl) rfl ?_
             refine ynil' (kthn (hK113 _ _ ?_))
             clear hK113
             refine ccond0 rfl ?_
             refine cskip' (kbn (kthn ?_))
             first | (have hSn1 := hSn; exact ksub zsub zge (hJr43 _ hSn1)) | exact ksub zsub zge (hJr43 _ hS)
           ·(try simp only [sH] at h627)
            refine cseq ?_; intro K114 hK114
            refine creg ?_
            refine y (ev_eql rfl rfl) rfl ?_
            refine y (ev_assign rfl) rfl ?_
            refine ynil' (kthn (hK114 _ _ ?_))
            clear hK114
            refine ccond rfl (fun h695 => ?_) (fun h695 => ?_)
            ·(try simp only [sH] at h695)
             refine cseq ?_; intro K115 hK115
             refine creg ?_
             refine y (ev_move rfl) rfl ?_
             refine y (ev_fieldAddr 1 rfl Tryz.underlying40 rfl Tryz.sizeOf3) rfl ?_
             refine y (ev_load rfl Tryz.isAgg3 zin rfl) rfl ?_
             refine ycall (secFuse) rfl Tryz.call18 ztk rfl ?_
             rintro v L' ⟨rfl, rfl⟩
             refine ynil' (kthn (hK115 _ _ ?_))
             clear hK115
             refine creg ?_
             refine y (ev_move rfl) rfl ?_
             refine y (ev_fieldAddr 1 rfl Tryz.underlying40 rfl Tryz.sizeOf3) rfl ?_
             refine y (ev_load rfl Tryz.isAgg3 zin rfl) rfl ?_
             refine ycall (rdFuse) rfl Tryz.call19 ztk rfl ?_
             rintro v L' ⟨rfl, rfl⟩
             have hSn := hS.dev (hS.r.setFuse hact.n.2) (show (D.setFuse yy.n).l.length = n.toNat from hS.len)
             refine ynil' (kbn (kthn ?_))
             first | (have hSn1 := hSn; exact ksub zsub zge (hJr43 _ hSn1)) | exact ksub zsub zge (hJr43 _ hS)
            ·(try simp only [sH] at h695)
             refine cseq ?_; intro K116 hK116
             refine creg ?_
             refine y (ev_eql rfl rfl) rfl ?_
             refine y (ev_assign rfl) rfl ?_
             refine ynil' (kthn (hK116 _ _ ?_))
             clear hK116
             refine ccond rfl (fun h706 => ?_) (fun h706 => ?_)
             ·(try simp only [sH] at h706)
              refine cseq ?_; intro K117 hK117
              refine creg ?_
              refine y (ev_move rfl) rfl ?_
              refine y (ev_fieldAddr 1 rfl Tryz.underlying40 rfl Tryz.sizeOf3) rfl ?_
              refine y (ev_load rfl Tryz.isAgg3 zin rfl) rfl ?_
              refine y (ev_fieldAddr 16 rfl Tryz.underlying40 rfl Tryz.sizeOf9) rfl ?_
              refine y (ev_load rfl Tryz.isAgg9 zin rfl) rfl ?_
              refine ya (ac_toBytesY rfl Tryz.underlying9 Tryz.underlying50 Tryz.underlying5) rfl ?_
              rintro v L' ⟨b192, c192, sp192, fr192, rfl, hc192, rfl⟩
              refine ycall (secWrite (bs := yy.s) ?ok713 ?rd713) rfl Tryz.call20 ztk rfl ?_
              case ok713 => first | exact hS.r.ok | exact hS.r.rok
              case rd713 => exact rdB_in zin rfl (by simp)
              rintro v L' ⟨rfl, rfl⟩
              refine ynil' (kthn (hK117 _ _ ?_))
              clear hK117
              refine creg ?_
              refine y (ev_move rfl) rfl ?_
              refine y (ev_fieldAddr 1 rfl Tryz.underlying40 rfl Tryz.sizeOf3) rfl ?_
              refine y (ev_load rfl Tryz.isAgg3 zin rfl) rfl ?_
              refine y (ev_fieldAddr 16 rfl Tryz.underlying40 rfl Tryz.sizeOf9) rfl ?_
              refine y (ev_load rfl Tryz.isAgg9 zin rfl) rfl ?_
              refine ya (ac_toBytesY rfl Tryz.underlying9 Tryz.underlying50 Tryz.underlying5) rfl ?_
              rintro v L' ⟨b199, c199, sp199, fr199, rfl, hc199, rfl⟩
              refine ycall (rdWrite (bs := yy.s) ?ok720 ?rd720) rfl Tryz.call21 ztk rfl ?_
              case ok720 => first | exact hS.r.ok | exact hS.r.rok
              case rd720 => exact rdB_in zin rfl (by simp)
              rintro v L' ⟨rfl, rfl⟩
              obtain ⟨e1, e2⟩ := hS.r.write yy.n yy.s
              have hSn := hS.dev e2 (show (D.write yy.n yy.s).2.l.length = n.toNat by rw [write_l]; exact hS.len)
              refine ynil' (kbn (kthn ?_))
              first | (have hSn1 := hSn; exact ksub zsub zge (hJr43 _ hSn1)) | exact ksub zsub zge (hJr43 _ hS)
             ·(try simp only [sH] at h706)
              have hSn := hS
              refine cskip' (kbn (kthn ?_))
              first | (have hSn1 := hSn; exact ksub zsub zge (hJr43 _ hSn1)) | exact ksub zsub zge (hJr43 _ hS)
       ·(try simp only [sH] at h403)
        refine cexit (kthx (kthx (kbx (kthn ?_))))
        exact ksub zsub zge (hJ1 ⟨z, D, E, t⟩ ⟨hI1o, by first | trivial | omega⟩)
      ·(try simp only [sH] at h399)
       refine yg0 rfl rfl rfl rfl ?_
       refine yg0 rfl rfl rfl rfl ?_
       refine y (ev_pick0 rfl rfl) rfl ?_
       refine ynil' (kthn (hK70 _ _ ?_))
       clear hK70
       refine ccond0 rfl ?_
       refine cexit (kthx (kthx (kbx (kthn ?_))))
       exact ksub zsub zge (hJ1 ⟨z, D, E, t⟩ ⟨hI1o, by first | trivial | omega⟩)
     clear hK65
     refine cseq ?_; intro K118 hK118
     refine creg ?_
     refine y (ev_move rfl) rfl ?_
     refine y (ev_move rfl) rfl ?_
     refine y (ev_neq rfl rfl) rfl ?_
     try rw [show (!decide (witE D0 a b wait = witE D0 a b wait)) = false by simp]
     refine y (ev_move rfl) rfl ?_
     refine yg1 rfl rfl ?_
     refine y (ev_move rfl) rfl ?_
     refine yg1 rfl rfl ?_
     refine y (ev_eqlPnil rfl rfl Tryz.underlying28) rfl ?_
     refine yg1 rfl rfl ?_
     refine y (ev_move rfl) rfl ?_
     refine yg1 rfl rfl ?_
     refine y (ev_eqlPnil rfl rfl Tryz.underlying32) rfl ?_
     refine yg1 rfl rfl ?_
     refine y (ev_neqB rfl rfl Tryz.underlying4) rfl ?_
     refine y (ev_pick0 rfl rfl) rfl ?_
     refine ynil' (kthn (hK118 _ _ ?_))
     clear hK118
     refine ccond0 rfl ?_
     refine cskip' (kthn ?_)
     exact ksub zsub zge (hJr11 t0 hS0)
   ·skip
    first | (refine ycall (secNewZ hn) rfl Tryz.call6 ztk rfl ?_; rintro v L' ⟨q32, rfl, rfl⟩) | (refine ycall (secNewNil (by omega)) rfl Tryz.call6 ztk rfl ?_; rintro v L' ⟨rfl, rfl⟩)
    refine y (ev_assign rfl) rfl ?_
    refine ynil' (kthn (hK4 _ _ ?_))
    clear hK4
    refine cseq ?_; intro K119 hK119
    refine creg ?_
    refine y (ev_move rfl) rfl ?_
    first | (refine ycall (rdNewZ hn) rfl Tryz.call7 ztk rfl ?_; rintro v L' ⟨p34, la34, rfl, rfl⟩) | (refine ycall (refNewNil (by omega)) rfl Tryz.call7 ztk rfl ?_; rintro v L' ⟨rfl, rfl⟩)
    refine y (ev_assign rfl) rfl ?_
    refine ynil' (kthn (hK119 _ _ ?_))
    clear hK119
    refine cseq ?_; intro K120 hK120
    refine cseq ?_; intro K121 hK121
    refine creg ?_
    refine y (ev_move rfl) rfl ?_
    refine y (ev_eqlPnil rfl rfl Tryz.underlying24) rfl ?_
    refine y (ev_move rfl) rfl ?_
    refine yg0 rfl rfl rfl rfl ?_
    refine yg0 rfl rfl rfl rfl ?_
    refine y (ev_pick1 rfl rfl) rfl ?_
    refine ynil' (kthn (hK121 _ _ ?_))
    clear hK121
    refine ccond1 rfl ?_
    refine cseq ?_; intro K122 hK122
    refine creg ?_
    refine y (ev_move rfl) rfl ?_
    refine y (ev_eqlPnil rfl rfl Tryz.underlying24) rfl ?_
    refine y (ev_move rfl) rfl ?_
    refine yg1 rfl rfl ?_
    refine y (ev_move rfl) rfl ?_
    refine yg1 rfl rfl ?_
    refine y (ev_eqlPnil rfl rfl Tryz.underlying26) rfl ?_
    refine y (ev_pick1 rfl rfl) rfl ?_
    refine y (ev_assign rfl) rfl ?_
    refine ynil' (kthn (hK122 _ _ ?_))
    clear hK122
    refine cret (kthr ?_)
    first
      | (exfalso; omega; done)
      | (refine kretv Tryz.results3 rfl (L1 := R) zge ?_
         exact ⟨_, ⟨by first | rfl | (exfalso; simp_all; done), rfl⟩, by first | rfl | (exfalso; simp_all; done)⟩)
end W
end Go.Proofs
