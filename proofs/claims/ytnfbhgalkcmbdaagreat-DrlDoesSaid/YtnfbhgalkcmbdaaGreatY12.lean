/- A part of the proof: contracts and plain lemmas, each without conditions beyond those that it names. -/
import Derived.Test.YtnfbhgalkcmbdaaGreatY11
set_option linter.unusedVariables false
set_option linter.unusedSimpArgs false
set_option linter.constructorNameAsVariable false
namespace Go.Proofs
open Go Go.Sl
namespace W
set_option linter.unusedVariables false
theorem drl_set_l {L : DrlM} {D : Dev} {b : Nat} : (L.set D b).2.2.l.length = D.l.length := put_l
theorem drl_mark_l {L : DrlM} {D : Dev} {i : Int} : (L.mark D i).2.2.l.length = D.l.length := by
  unfold DrlM.mark
  split
  · rfl
  · split
    · rfl
    · exact drl_set_l
theorem drl_clear_l {L : DrlM} {D : Dev} : (L.clear D).2.2.l.length = D.l.length := by
  unfold DrlM.clear
  split
  · rfl
  · exact drl_set_l
theorem DdM.ok.of {D : Dev} {E : RDev} {N : Nat} {z : (Nat × Nat) × (Nat × Nat) × DrlM} (hr : Rel D E) (hl : D.l.length = N) (h : z.2.2.ok D) : DdM.ok ⟨D, E, some z⟩ N :=
  ⟨hr, hl, fun y hy => by cases hy; exact ⟨by rw [← hl]; exact h.c, h.n, h.bits⟩⟩
theorem DdM.ok.dev {D D' : Dev} {E E' : RDev} {N : Nat} {t : Two} (h : DdM.ok ⟨D, E, t⟩ N) (hr : Rel D' E') (hl : D'.l.length = N) : DdM.ok ⟨D', E', t⟩ N := ⟨hr, hl, h.t⟩
theorem dOpenOk [Env] {R : List Seg} {q : Q3} {D : Dev} {a b nb : Int} (hD : D.ok) (ho : drlE D a b nb = 0) : Con Tryz.prog 7 [dp q, i64 a, i64 b, i64 nb] [dev q D] R (fun u L' => ∃ l c, u = .tuple #[ptr l, i64 0] ∧ L' = [drlP l c (drlO D a b nb.toNat), celP c q (openC D a b), dev q D]) := by
  refine (dOpen hD).mono ?_
  rintro v L (⟨h1, _⟩ | ⟨_, l, c, rfl, rfl⟩)
  · exact absurd ho h1
  · exact ⟨l, c, rfl, rfl⟩
set_option maxHeartbeats 4000000 in
theorem lawDDoes [Env] {R : List Seg} {n a b nb k : Int} {lv : Value} {acts : List ActL} (hk1 : -9223372036854775808 ≤ k) (hk2 : k ≤ 9223372036854775807) (hl : RdV R lv acts.length (actlsV acts)) (haa : ∀ a ∈ acts, a.ok R) :
    Con Tryz.prog 3 [i64 n, i64 a, i64 b, i64 nb, lv, i64 k] [] R (Is (.bool true) []) := by
  have hvl := hl.lenVal
  refine con_enter Tryz.func3 Tryz.ntmps3 rfl rfl ?_
  refine cseq ?_; intro K1 hK1
  refine creg ?_
  refine y (ev_assign rfl) rfl ?_
  refine ynil' (kthn (hK1 _ _ ?_))
  clear hK1
  refine cseq ?_; intro K2 hK2
  refine cseq ?_; intro K3 hK3
  refine creg ?_
  refine ycall (awake8) rfl Tryz.call4 (by repeat first | exact .nil | exact .z | apply Pk.s | apply Tk.cons) rfl ?_
  rintro v L' ⟨rfl, rfl⟩
  skip
  ·skip
   refine y (ev_not rfl) rfl ?_
   refine ynil' (kthn (hK3 _ _ ?_))
   clear hK3
   refine ccond0 rfl ?_
   refine cskip' (kthn (hK2 _ _ ?_))
   clear hK2
   refine cseq ?_; intro K4 hK4
   refine creg ?_
   refine y (ev_move rfl) rfl ?_
   by_cases hn : 0 ≤ n ∧ n ≤ 512
   ·skip
    first | (refine ycall (secNewZ hn) rfl Tryz.call5 (by repeat first | exact .nil | exact .z | apply Pk.s | apply Tk.cons) rfl ?_; rintro v L' ⟨q29, rfl, rfl⟩) | (refine ycall (secNewNil (by omega)) rfl Tryz.call5 (by repeat first | exact .nil | exact .z | apply Pk.s | apply Tk.cons) rfl ?_; rintro v L' ⟨rfl, rfl⟩)
    refine y (ev_assign rfl) rfl ?_
    refine ynil' (kthn (hK4 _ _ ?_))
    clear hK4
    refine cseq ?_; intro K5 hK5
    refine creg ?_
    refine y (ev_move rfl) rfl ?_
    first | (refine ycall (rdNewZ hn) rfl Tryz.call6 (by repeat first | exact .nil | exact .z | apply Pk.s | apply Tk.cons) rfl ?_; rintro v L' ⟨p31, la31, rfl, rfl⟩) | (refine ycall (refNewNil (by omega)) rfl Tryz.call6 (by repeat first | exact .nil | exact .z | apply Pk.s | apply Tk.cons) rfl ?_; rintro v L' ⟨rfl, rfl⟩)
    refine y (ev_assign rfl) rfl ?_
    refine ynil' (kthn (hK5 _ _ ?_))
    clear hK5
    refine cseq ?_; intro K6 hK6
    refine cseq ?_; intro K7 hK7
    refine creg ?_
    refine y (ev_move rfl) rfl ?_
    refine y (ev_eqlPnil rfl rfl Tryz.underlying24) rfl ?_
    refine y (ev_move rfl) rfl ?_
    refine yg1 rfl rfl ?_
    refine y (ev_move rfl) rfl ?_
    refine yg1 rfl rfl ?_
    refine y (ev_eqlPnil rfl rfl Tryz.underlying26) rfl ?_
    refine y (ev_pick0 rfl rfl) rfl ?_
    refine ynil' (kthn (hK7 _ _ ?_))
    clear hK7
    refine ccond0 rfl ?_
    refine cskip' (kthn (hK6 _ _ ?_))
    clear hK6
    refine cseq ?_; intro K8 hK8
    refine creg ?_
    have hR0 : Rel (Dev.new n.toNat) (RDev.new n.toNat) := Rel.new (by omega)
    have hl0 : (Dev.new n.toNat).l.length = n.toNat := by simp [Dev.new]
    generalize Dev.new n.toNat = D0 at *
    generalize RDev.new n.toNat = E0 at *
    refine y (ev_move rfl) rfl ?_
    refine y (ev_move rfl) rfl ?_
    refine y (ev_move rfl) rfl ?_
    refine y (ev_move rfl) rfl ?_
    by_cases ho : drlE D0 a b nb = 0
    ·skip
     first | (refine ycall (dOpenOk hR0.ok ho) rfl Tryz.call7 (by repeat first | exact .nil | exact .z | apply Pk.s | apply Tk.cons) rfl ?_; rintro v L' ⟨l49, c49, rfl, rfl⟩) | (refine ycall (dOpenBad hR0.ok rfl ho) rfl Tryz.call7 (by repeat first | exact .nil | exact .z | apply Pk.s | apply Tk.cons) rfl ?_; rintro v L' ⟨rfl, rfl⟩)
     refine y (ev_move rfl) rfl ?_
     refine y (ev_extract rfl rfl) rfl ?_
     refine y (ev_extract rfl rfl) rfl ?_
     refine y (ev_assign rfl) rfl ?_
     refine y (ev_assign rfl) rfl ?_
     refine ynil' (kthn (hK8 _ _ ?_))
     clear hK8
     refine cseq ?_; intro K9 hK9
     refine creg ?_
     refine y (ev_move rfl) rfl ?_
     refine y (ev_move rfl) rfl ?_
     refine y (ev_move rfl) rfl ?_
     refine y (ev_move rfl) rfl ?_
     first | (refine ycall (qOpenOk hR0 ho) rfl Tryz.call8 (by repeat first | exact .nil | exact .z | apply Pk.s | apply Tk.cons) rfl ?_; rintro v L' ⟨l57, c57, rfl, rfl⟩; have hS0 := DdM.ok.two hR0 hl0 ho l49 c49 l57 c57; let t0 : Two := some ((l49, c49), (l57, c57), drlO D0 a b nb.toNat)) | (refine ycall (qOpenBad hR0 ho) rfl Tryz.call8 (by repeat first | exact .nil | exact .z | apply Pk.s | apply Tk.cons) rfl ?_; rintro v L' ⟨rfl, rfl⟩; have hS0 := DdM.ok.none' hR0 hl0; let t0 : Two := none)
     refine y (ev_move rfl) rfl ?_
     refine y (ev_extract rfl rfl) rfl ?_
     refine y (ev_extract rfl rfl) rfl ?_
     refine y (ev_assign rfl) rfl ?_
     refine y (ev_assign rfl) rfl ?_
     refine ynil' (kthn (hK9 _ _ ?_))
     clear hK9
     refine cseq ?_; intro K10 hK10
     have hJr11 : ∀ x : Two, (DdM.ok ⟨D0, E0, x⟩ n.toNat) → Sk 246 K10 ([(17, twoV2 x), (15, twoV1 x), (14, ptr p31), (13, dp q29), (0, i64 n), (1, i64 a), (2, i64 b), (3, i64 nb), (4, lv), (5, i64 k)]) ([twoA x, twoB q29 x, twoC x, twoD p31 x, dev q29 D0, rdev p31 la31 E0] ++ R) := by
      rintro t0 hIr11
      refine hK10 _ _ ?_
      have hS0 := hIr11
      refine cseq ?_; intro K11 hK11
      refine cseq ?_; intro K12 hK12
      refine creg ?_
      refine y (ev_assign rfl) rfl ?_
      refine ynil' (kthn (hK12 _ _ ?_))
      clear hK12
      have hJ1 : ∀ x : Nat × DdM, ((x.2.ok n.toNat ∧ x.1 ≤ acts.length ∧ x.1 ≤ 60) ∧ (True)) → Sk 246 K11 ([(19, i64 x.1), (17, twoV2 x.2.t), (15, twoV1 x.2.t), (14, ptr p31), (13, dp q29), (0, i64 n), (1, i64 a), (2, i64 b), (3, i64 nb), (4, lv), (5, i64 k)]) ([twoA x.2.t, twoB q29 x.2.t, twoC x.2.t, twoD p31 x.2.t, dev q29 x.2.D, rdev p31 la31 x.2.E] ++ R) := by
       rintro ⟨z, D, E, t⟩ ⟨hI1, hX1⟩
       refine hK11 _ _ ?_
       obtain ⟨hS, hz1, hz2⟩ := hI1; dsimp only at hS hz1 hz2 ⊢
       refine cseq ?_; intro K13 hK13
       refine creg ?_
       refine y (ev_assign rfl) rfl ?_
       refine ynil' (kthn (hK13 _ _ ?_))
       clear hK13
       refine cret ?_
       first
         | (exfalso; omega; done)
         | (refine kretv Tryz.results3 rfl (L1 := R) (by repeat first | exact .refl | exact .nil | exact .z | apply Pk.s | refine Ge.e ?_ | apply Ge.pick | apply Ge.drop) ?_
            exact ⟨_, ⟨by first | rfl | (exfalso; simp_all; done), rfl⟩, by first | rfl | (exfalso; simp_all; done)⟩)
      clear hK11
      refine cblock ?_
      refine cloop (A := Nat × DdM) (fun x => [(19, i64 x.1), (17, twoV2 x.2.t), (15, twoV1 x.2.t), (14, ptr p31), (13, dp q29), (0, i64 n), (1, i64 a), (2, i64 b), (3, i64 nb), (4, lv), (5, i64 k)]) (fun x => [twoA x.2.t, twoB q29 x.2.t, twoC x.2.t, twoD p31 x.2.t, dev q29 x.2.D, rdev p31 la31 x.2.E] ++ R) (fun x => x.2.ok n.toNat ∧ x.1 ≤ acts.length ∧ x.1 ≤ 60) (fun x => acts.length - x.1) ((0, ⟨D0, E0, t0⟩)) ?_ (by repeat first | exact sub_nil | refine sub_cons rfl ?_ | refine sub_cons' rfl (by simp) ?_) (by repeat first | exact .refl | exact .nil | exact .z | apply Pk.s | refine Ge.e ?_ | apply Ge.pick | apply Ge.drop) ?_
      · exact ⟨hS0, Nat.zero_le _, Nat.zero_le _⟩
      rintro ⟨z, D, E, t⟩ hI1 KL1 hL1
      have hI1o := hI1
      obtain ⟨hS, hz1, hz2⟩ := hI1; dsimp only at hS hz1 hz2 ⊢
      refine cseq ?_; intro K14 hK14
      refine cseq ?_; intro K15 hK15
      refine creg ?_
      refine y (ev_move rfl) rfl ?_
      refine y (ev_move rfl) rfl ?_
      first
        | refine y (ev_len rfl Tryz.underlying22) rfl ?_
        | refine y (ev_lenSv rfl Tryz.underlying22 (by assumption)) rfl ?_
        | refine y (ev_lenV rfl Tryz.underlying22 (RdV.lenVal (by assumption))) rfl ?_
        | refine y (ev_lenV rfl Tryz.underlying22 (RdB.lenVal (by assumption))) rfl ?_
      refine y (ev_lss rfl rfl) rfl ?_
      refine y (ev_move rfl) rfl ?_
      refine ysplit 74 rfl (fun h43 => ?_) (fun h43 => ?_)
      ·(try simp only [sH] at h43)
       refine yg1 rfl rfl ?_
       refine y (ev_move rfl) rfl ?_
       refine yg1 rfl rfl ?_
       refine y (ev_lss rfl rfl) rfl ?_
       refine y (ev_pick1 rfl rfl) rfl ?_
       refine ynil' (kthn (hK15 _ _ ?_))
       clear hK15
       refine ccond rfl (fun h47 => ?_) (fun h47 => ?_)
       ·(try simp only [sH] at h47)
        obtain ⟨yy, hy⟩ : ∃ yy, acts[z]? = some yy := ⟨_, List.getElem?_eq_getElem (by omega)⟩
        have hact := haa yy (List.mem_of_getElem? hy)
        refine cskip' (kthn (hK14 _ _ ?_))
        clear hK14
        refine cseq ?_; intro K16 hK16
        refine cblock ?_
        refine cseq ?_; intro K17 hK17
        refine creg ?_
        refine y (ev_move rfl) rfl ?_
        refine y (ev_move rfl) rfl ?_
        first
          | refine y (ev_ixAddr rfl rfl Tryz.underlying22 Tryz.sizeOf37 (by omega) (by omega)) rfl ?_
          | refine y (ev_ixV (by assumption) rfl rfl Tryz.underlying22 Tryz.sizeOf37 (by omega) (by omega)) rfl ?_
        refine y (ev_loadNV (us := yy.cells) (z * 4) hl (by repeat first | exact .refl | exact .nil | exact .z | apply Pk.s | refine Ge.e ?_ | apply Ge.pick | apply Ge.drop) rfl Tryz.isAgg37 Tryz.sizeOf37 (by simp) (actlsV_get hy) rfl) rfl ?_
        refine ya (ac_alloc Tryz.zeroValue37 rfl) rfl ?_
        rintro v L' ⟨b20, rfl, rfl⟩
        refine ya0 (ac_storeN rfl rfl hact.one Tryz.sizeOf37 (by repeat first | exact .z | apply Rp.s) rfl (by decide) rfl) ?_
        rintro v L' ⟨rfl, rfl⟩
        refine ynil' (kthn (hK17 _ _ ?_))
        clear hK17
        refine cseq ?_; intro K18 hK18
        refine cseq ?_; intro K19 hK19
        refine creg ?_
        refine y (ev_loadN (u := yy.cells) rfl Tryz.isAgg37 Tryz.sizeOf37 (by repeat first | exact .z | apply In.s) rfl rfl) rfl ?_
        refine ycall (nLarge8 ?lx55) rfl Tryz.call9 (by repeat first | exact .nil | exact .z | apply Pk.s | apply Tk.cons) rfl ?_
        case lx55 => exact hact.mono (by repeat first | exact .refl | exact .nil | exact .z | apply Pk.s | refine Ge.e ?_ | apply Ge.pick | apply Ge.drop)
        rintro v L' ⟨big85, rfl, hbig85, rfl⟩
        refine ynil' (kthn (hK19 _ _ ?_))
        clear hK19
        refine ccond rfl (fun h56 => ?_) (fun h56 => ?_)
        ·(try simp only [sH] at h56)
         refine cseq ?_; intro K20 hK20
         refine creg ?_
         refine y (ev_assign rfl) rfl ?_
         refine ynil' (kthn (hK20 _ _ ?_))
         clear hK20
         refine cret (kthr (kbr (kthr (kthr (kbr (kthr ?_))))))
         first
           | (exfalso; omega; done)
           | (refine kretv Tryz.results3 rfl (L1 := R) (by repeat first | exact .refl | exact .nil | exact .z | apply Pk.s | refine Ge.e ?_ | apply Ge.pick | apply Ge.drop) ?_
              exact ⟨_, ⟨by first | rfl | (exfalso; simp_all; done), rfl⟩, by first | rfl | (exfalso; simp_all; done)⟩)
        ·(try simp only [sH] at h56)
         have hlg := hbig85 h56
         refine cskip' (kthn (hK18 _ _ ?_))
         clear hK18
         refine cseq ?_; intro K21 hK21
         have hJr36 : ∀ x : DdM, (x.ok n.toNat) → Sk 246 K21 ([(19, i64 z), (17, twoV2 x.t), (15, twoV1 x.t), (14, ptr p31), (13, dp q29), (0, i64 n), (1, i64 a), (2, i64 b), (3, i64 nb), (4, lv), (5, i64 k)]) ([twoA x.t, twoB q29 x.t, twoC x.t, twoD p31 x.t, dev q29 x.D, rdev p31 la31 x.E] ++ R) := by
          rintro ⟨D, E, t⟩ hIr36
          refine hK21 _ _ ?_
          clear hS; have hS := hIr36; dsimp only at hS ⊢
          refine cseq ?_; intro K22 hK22
          refine cseq ?_; intro K23 hK23
          refine cdraw 26 [(0, true), (1, true), (2, true), (3, true), (5, true), (4, false), (6, false), (7, false), (8, true), (9, true), (10, true), (11, true), (13, true), (14, true), (12, false), (15, false), (16, true), (17, true), (18, true), (19, true), (22, true), (23, true), (24, true), (25, true), (20, false), (21, false)] (_) Tryz.mixed (by kernel_rfl) .refl ?_
          rcases t with _ | ⟨⟨l1, c1⟩, ⟨l2, c2⟩, L⟩
          ·skip
           refine hr rfl (ev_move rfl) rfl ?_
           refine hr rfl (ev_neqPnil rfl rfl Tryz.underlying28) rfl ?_
           first | (let tt : Two := some ((l1, c1), (l2, c2), L); have hSl : L.ok D := hS.l) | (let tt : Two := none)
           refine hr rfl (ev_move rfl) rfl ?_
           refine hr0 rfl rfl rfl rfl rfl ?_
           refine hr0 rfl rfl rfl rfl rfl ?_
           refine ha0 rfl rfl rfl rfl rfl (by repeat first | exact .refl | exact .nil | exact .z | apply Pk.s | refine Ge.e ?_ | apply Ge.pick | apply Ge.drop) ?_
           refine ha0 rfl rfl rfl rfl rfl (by repeat first | exact .refl | exact .nil | exact .z | apply Pk.s | refine Ge.e ?_ | apply Ge.pick | apply Ge.drop) ?_
           refine ha0 rfl rfl rfl rfl rfl (by repeat first | exact .refl | exact .nil | exact .z | apply Pk.s | refine Ge.e ?_ | apply Ge.pick | apply Ge.drop) ?_
           refine hr0 rfl rfl rfl rfl rfl ?_
           refine hr0 rfl rfl rfl rfl rfl ?_
           refine hr0u rfl rfl rfl rfl ?_
           refine hr0u rfl rfl rfl rfl ?_
           refine hr0u rfl rfl rfl rfl ?_
           refine hr0u rfl rfl rfl rfl ?_
           refine ha0u rfl rfl rfl rfl (by repeat first | exact .refl | exact .nil | exact .z | apply Pk.s | refine Ge.e ?_ | apply Ge.pick | apply Ge.drop) ?_
           refine ha0u rfl rfl rfl rfl (by repeat first | exact .refl | exact .nil | exact .z | apply Pk.s | refine Ge.e ?_ | apply Ge.pick | apply Ge.drop) ?_
           refine hr0u rfl rfl rfl rfl ?_
           refine hr0 rfl rfl rfl rfl rfl ?_
           refine hr0 rfl rfl rfl rfl rfl ?_
           refine hr0u rfl rfl rfl rfl ?_
           refine hr0u rfl rfl rfl rfl ?_
           refine hr0u rfl rfl rfl rfl ?_
           refine hr0u rfl rfl rfl rfl ?_
           refine hr0u rfl rfl rfl rfl ?_
           refine ha0u rfl rfl rfl rfl (by repeat first | exact .refl | exact .nil | exact .z | apply Pk.s | refine Ge.e ?_ | apply Ge.pick | apply Ge.drop) ?_
           refine ha0u rfl rfl rfl rfl (by repeat first | exact .refl | exact .nil | exact .z | apply Pk.s | refine Ge.e ?_ | apply Ge.pick | apply Ge.drop) ?_
           refine hnil ?_
           refine yg0u rfl rfl rfl ?_
           refine yg0u rfl rfl rfl ?_
           refine yg0 rfl rfl rfl rfl ?_
           refine y (ev_pick0 rfl rfl) rfl ?_
           refine hnoP' (kthn (hK23 _ _ ?_))
           clear hK23
           refine ccond0 rfl ?_
           refine cskip' (kthn (hK22 _ _ ?_))
           clear hK22
           refine cseq ?_; intro K24 hK24
           refine creg ?_
           refine y (ev_assign rfl) rfl ?_
           refine ynil' (kthn (hK24 _ _ ?_))
           clear hK24
           refine cblock ?_
           refine cloop (A := Nat) (fun x => [(21, i64 x), (19, i64 z), (17, twoV2 tt), (15, twoV1 tt), (14, ptr p31), (13, dp q29), (0, i64 n), (1, i64 a), (2, i64 b), (3, i64 nb), (4, lv), (5, i64 k)]) (fun x => [twoA tt, twoB q29 tt, twoC tt, twoD p31 tt, dev q29 D, rdev p31 la31 E] ++ R) (fun x => x ≤ 6) (fun x => 6 - x) (0) ?_ (by repeat first | exact sub_nil | refine sub_cons rfl ?_ | refine sub_cons' rfl (by simp) ?_) (by repeat first | exact .refl | exact .nil | exact .z | apply Pk.s | refine Ge.e ?_ | apply Ge.pick | apply Ge.drop) ?_
           · exact Nat.zero_le _
           rintro s hI2 KL2 hL2
           have hs6 := hI2
           refine cseq ?_; intro K25 hK25
           refine cseq ?_; intro K26 hK26
           refine creg ?_
           refine y (ev_move rfl) rfl ?_
           refine y (ev_move rfl) rfl ?_
           refine y (ev_lss rfl rfl) rfl ?_
           refine y (ev_move rfl) rfl ?_
           refine ysplit 218 rfl (fun h67 => ?_) (fun h67 => ?_)
           ·(try simp only [sH] at h67)
            refine yg1 rfl rfl ?_
            refine y (ev_move rfl) rfl ?_
            refine yg1 rfl rfl ?_
            refine y (ev_lss rfl rfl) rfl ?_
            refine y (ev_pick1 rfl rfl) rfl ?_
            refine ynil' (kthn (hK26 _ _ ?_))
            clear hK26
            refine ccond rfl (fun h71 => ?_) (fun h71 => ?_)
            ·(try simp only [sH] at h71)
             refine cskip' (kthn (hK25 _ _ ?_))
             clear hK25
             refine cseq ?_; intro K27 hK27
             refine cblock ?_
             refine cseq ?_; intro K28 hK28
             refine creg ?_
             refine y (ev_move rfl) rfl ?_
             refine y (ev_move rfl) rfl ?_
             refine ycall (secReadU hS.r.ok) rfl Tryz.call29 (by repeat first | exact .nil | exact .z | apply Pk.s | apply Tk.cons) rfl ?_
             rintro v L' ⟨s227, rfl, ok227, rfl⟩
             refine y (ev_move rfl) rfl ?_
             refine y (ev_extract rfl rfl) rfl ?_
             refine y (ev_extract rfl rfl) rfl ?_
             refine y (ev_assign rfl) rfl ?_
             refine y (ev_assign rfl) rfl ?_
             refine ynil' (kthn (hK28 _ _ ?_))
             clear hK28
             refine cseq ?_; intro K29 hK29
             refine creg ?_
             refine y (ev_move rfl) rfl ?_
             refine y (ev_move rfl) rfl ?_
             refine ycall (rdReadU hS.r.rok (fun h => by rw [← hS.r.has] at h; obtain ⟨-, q0, q1⟩ := has_zero h; rw [← hS.r.sec q0 q1]; exact sec_length hS.r.ok _)) rfl Tryz.call30 (by repeat first | exact .nil | exact .z | apply Pk.s | apply Tk.cons) rfl ?_
             rintro v L' ⟨s233, rfl, ok233, rfl⟩
             rw [← hS.r.rdB, ← hS.r.has] at *
             have hb227 : RdB [svSeg s227 5 (bytesV (D.rdB s))] (svVal s227 (D.rdB s).length) (D.rdB s) := rdB_sv .z ok227
             have hb233 : RdB [svSeg s233 5 (bytesV (D.rdB s))] (svVal s233 (D.rdB s).length) (D.rdB s) := rdB_sv .z ok233
             generalize D.rdB s = bs at *
             refine y (ev_move rfl) rfl ?_
             refine y (ev_extract rfl rfl) rfl ?_
             refine y (ev_extract rfl rfl) rfl ?_
             refine y (ev_assign rfl) rfl ?_
             refine y (ev_assign rfl) rfl ?_
             refine ynil' (kthn (hK29 _ _ ?_))
             clear hK29
             refine cseq ?_; intro K30 hK30
             refine creg ?_
             skip
             ·skip
              refine y (ev_move rfl) rfl ?_
              refine y (ev_toStrB hb227 (by repeat first | exact .refl | exact .nil | exact .z | apply Pk.s | refine Ge.e ?_ | apply Ge.pick | apply Ge.drop) rfl Tryz.underlying47 Tryz.underlying9 Tryz.underlying5) rfl ?_
              refine y (ev_move rfl) rfl ?_
              refine y (ev_toStrB hb233 (by repeat first | exact .refl | exact .nil | exact .z | apply Pk.s | refine Ge.e ?_ | apply Ge.pick | apply Ge.drop) rfl Tryz.underlying47 Tryz.underlying9 Tryz.underlying5) rfl ?_
              first
                | refine y (ev_neqL rfl rfl) rfl ?_
                | refine y (ev_neqS rfl rfl) rfl ?_
              rw [show decide (bs ≠ bs) = false by simp]
              refine y (ev_move rfl) rfl ?_
              refine yg1 rfl rfl ?_
              refine y (ev_move rfl) rfl ?_
              refine yg1 rfl rfl ?_
              refine y (ev_move rfl) rfl ?_
              refine yg1 rfl rfl ?_
              refine y (ev_neq rfl rfl) rfl ?_
              rw [show (!decide (D.has s = D.has s)) = false by simp]
              refine y (ev_pick0 rfl rfl) rfl ?_
              refine ynil' (kthn (hK30 _ _ ?_))
              clear hK30
              refine ccond0 rfl ?_
              refine cskip' (kbn (kthn (hK27 _ _ ?_)))
              clear hK27
              refine creg ?_
              refine y (ev_move rfl) rfl ?_
              refine y (ev_add rfl rfl) rfl ?_
              rw [show IntKind.i64.wrap ((s:Int) + 1) = ((s+1 : Nat) : Int) by rw [wr (by omega) (by omega)]; rfl]
              refine y (ev_assign rfl) rfl ?_
              refine ynil' (kthn ?_)
              exact hL2 (s + 1) (by first | omega | (dsimp only; omega)) (by omega) _ _ (by repeat first | exact sub_nil | refine sub_cons rfl ?_ | refine sub_cons' rfl (by simp) ?_) (by repeat first | exact .refl | exact .nil | exact .z | apply Pk.s | refine Ge.e ?_ | apply Ge.pick | apply Ge.drop)
            ·(try simp only [sH] at h71)
             refine cexit (kthx (kthx (kbx (kbn (kthn (hK16 _ _ ?_))))))
             clear hK16
             refine creg ?_
             refine y (ev_move rfl) rfl ?_
             refine y (ev_add rfl rfl) rfl ?_
             rw [show IntKind.i64.wrap ((z:Int) + 1) = ((z+1 : Nat) : Int) by rw [wr (by omega) (by omega)]; rfl]
             refine y (ev_assign rfl) rfl ?_
             refine ynil' (kthn ?_)
             exact hL1 (z + 1, ⟨D, E, tt⟩) ⟨hS, by dsimp only; omega, by dsimp only; omega⟩ (by dsimp only; omega) _ _ (by repeat first | exact sub_nil | refine sub_cons rfl ?_ | refine sub_cons' rfl (by simp) ?_) (by repeat first | exact .refl | exact .nil | exact .z | apply Pk.s | refine Ge.e ?_ | apply Ge.pick | apply Ge.drop)
           ·(try simp only [sH] at h67)
            refine yg0 rfl rfl rfl rfl ?_
            refine yg0 rfl rfl rfl rfl ?_
            refine y (ev_pick0 rfl rfl) rfl ?_
            refine ynil' (kthn (hK26 _ _ ?_))
            clear hK26
            refine ccond0 rfl ?_
            refine cexit (kthx (kthx (kbx (kbn (kthn (hK16 _ _ ?_))))))
            clear hK16
            refine creg ?_
            refine y (ev_move rfl) rfl ?_
            refine y (ev_add rfl rfl) rfl ?_
            rw [show IntKind.i64.wrap ((z:Int) + 1) = ((z+1 : Nat) : Int) by rw [wr (by omega) (by omega)]; rfl]
            refine y (ev_assign rfl) rfl ?_
            refine ynil' (kthn ?_)
            exact hL1 (z + 1, ⟨D, E, tt⟩) ⟨hS, by dsimp only; omega, by dsimp only; omega⟩ (by dsimp only; omega) _ _ (by repeat first | exact sub_nil | refine sub_cons rfl ?_ | refine sub_cons' rfl (by simp) ?_) (by repeat first | exact .refl | exact .nil | exact .z | apply Pk.s | refine Ge.e ?_ | apply Ge.pick | apply Ge.drop)
          ·skip
           refine hr rfl (ev_move rfl) rfl ?_
           refine hr rfl (ev_neqPnil rfl rfl Tryz.underlying28) rfl ?_
           first | (let tt : Two := some ((l1, c1), (l2, c2), L); have hSl : L.ok D := hS.l) | (let tt : Two := none)
           refine hr rfl (ev_move rfl) rfl ?_
           refine hr1 rfl rfl rfl (ev_move rfl) rfl ?_
           refine hr1 rfl rfl rfl (ev_move rfl) rfl ?_
           refine hcall1 rfl rfl rfl (dBlocks ?dn113 ?db113) rfl Tryz.call22 (by repeat first | exact .nil | exact .z | apply Pk.s | apply Tk.cons) rfl ?_
           case dn113 => exact hSl.n
           case db113 => exact hSl.bits
           rintro v L' ⟨s189, rfl, ok189, rfl⟩; refine ⟨(by repeat first | exact .refl | exact .nil | exact .z | apply Pk.s | refine Ge.e ?_ | apply Ge.pick | apply Ge.drop), ?_⟩
           refine hcall1 rfl rfl rfl (qAll ?dn114) rfl Tryz.call23 (by repeat first | exact .nil | exact .z | apply Pk.s | apply Tk.cons) rfl ?_
           case dn114 => exact hSl.n
           rintro v L' ⟨s191, rfl, ok191, rfl⟩; refine ⟨(by repeat first | exact .refl | exact .nil | exact .z | apply Pk.s | refine Ge.e ?_ | apply Ge.pick | apply Ge.drop), ?_⟩
           refine hcall1 rfl rfl rfl (nInts (u1 := L.blks) (u2 := L.blks) ?ia115 ?ib115 ?ic115 ?id115) rfl Tryz.call21 (by repeat first | exact .nil | exact .z | apply Pk.s | apply Tk.cons) rfl ?_
           case ia115 => exact rdV_sv (by repeat first | exact .z | apply In.s) ok189
           case ib115 => exact rdV_sv (by repeat first | exact .z | apply In.s) ok191
           case ic115 => have h1 := blksTo_le L L.n; have h2 := hSl.n; show (blksTo L L.n).length ≤ 1000; omega
           case id115 => have h1 := blksTo_le L L.n; have h2 := hSl.n; show (blksTo L L.n).length ≤ 1000; omega
           rintro v L' ⟨rfl, rfl⟩; refine ⟨(by repeat first | exact .refl | exact .nil | exact .z | apply Pk.s | refine Ge.e ?_ | apply Ge.pick | apply Ge.drop), ?_⟩
           rw [show decide (L.blks = L.blks) = true by simp]
           refine hr1 rfl rfl rfl (ev_not rfl) rfl ?_
           refine hr1 rfl rfl rfl (ev_move rfl) rfl ?_
           refine hr1 rfl rfl rfl (ev_move rfl) rfl ?_
           refine hr1 rfl rfl rfl (ev_move rfl) rfl ?_
           refine hr1 rfl rfl rfl (ev_move rfl) rfl ?_
           refine hr1 rfl rfl rfl (ev_move rfl) rfl ?_
           refine hcall1 rfl rfl rfl (dHas ?dn122 ?db122 ?di122 ?dj122) rfl Tryz.call24 (by repeat first | exact .nil | exact .z | apply Pk.s | apply Tk.cons) rfl ?_
           case dn122 => exact hSl.n
           case db122 => exact hSl.bits
           case di122 => exact hk1
           case dj122 => exact hk2
           rintro v L' ⟨rfl, rfl⟩; refine ⟨(by repeat first | exact .refl | exact .nil | exact .z | apply Pk.s | refine Ge.e ?_ | apply Ge.pick | apply Ge.drop), ?_⟩
           refine hcall1 rfl rfl rfl (qHas ?dn123 ?dj123) rfl Tryz.call25 (by repeat first | exact .nil | exact .z | apply Pk.s | apply Tk.cons) rfl ?_
           case dn123 => exact hSl.n
           case dj123 => exact hk2
           rintro v L' ⟨rfl, rfl⟩; refine ⟨(by repeat first | exact .refl | exact .nil | exact .z | apply Pk.s | refine Ge.e ?_ | apply Ge.pick | apply Ge.drop), ?_⟩
           refine hr1 rfl rfl rfl (ev_neqB rfl rfl Tryz.underlying4) rfl ?_
           rw [show (!(L.has k == L.has k)) = false by simp]
           refine hr1 rfl rfl rfl (ev_pick0 rfl rfl) rfl ?_
           refine hr1 rfl rfl rfl (ev_move rfl) rfl ?_
           refine hr1 rfl rfl rfl (ev_move rfl) rfl ?_
           refine hr1 rfl rfl rfl (ev_move rfl) rfl ?_
           refine hr1 rfl rfl rfl (ev_nil rfl) rfl ?_
           refine hr1 rfl rfl rfl (ev_fieldAddr 2 rfl Tryz.underlying62 rfl Tryz.sizeOf60) rfl ?_
           refine hr1 rfl rfl rfl (ev_loadN (u := rowC (regs L.n) L.bits) rfl Tryz.isAgg60 Tryz.sizeOf60 (by repeat first | exact .z | apply In.s) (rdrl_row c2 L) (rowC_len _ _)) rfl ?_
           refine hcall1 rfl rfl rfl (dRow) rfl Tryz.call26 (by repeat first | exact .nil | exact .z | apply Pk.s | apply Tk.cons) rfl ?_
           rintro v L' ⟨rfl, rfl⟩; refine ⟨(by repeat first | exact .refl | exact .nil | exact .z | apply Pk.s | refine Ge.e ?_ | apply Ge.pick | apply Ge.drop), ?_⟩
           refine hcall1 rfl rfl rfl (xText ?xn133 ?xb133) rfl Tryz.call27 (by repeat first | exact .nil | exact .z | apply Pk.s | apply Tk.cons) rfl ?_
           case xn133 => exact Nat.le_trans (regs_le hSl.n).2 (by omega)
           case xb133 => exact hSl.bits
           rintro v L' ⟨rfl, rfl⟩; refine ⟨(by repeat first | exact .refl | exact .nil | exact .z | apply Pk.s | refine Ge.e ?_ | apply Ge.pick | apply Ge.drop), ?_⟩
           refine hnil ?_
           refine yg1 rfl rfl ?_
           refine ycall (r7Text ?xn134 ?xb134) rfl Tryz.call28 (by repeat first | exact .nil | exact .z | apply Pk.s | apply Tk.cons) rfl ?_
           case xn134 => exact Nat.le_trans (regs_le hSl.n).2 (by omega)
           case xb134 => exact hSl.bits
           rintro v L' ⟨rfl, rfl⟩
           refine yg1 rfl rfl ?_
           first
             | refine y (ev_neqL rfl rfl) rfl ?_
             | refine y (ev_neqS rfl rfl) rfl ?_
           rw [show decide (textR (regs L.n) L.bits ≠ textR (regs L.n) L.bits) = false by simp]
           refine yg1 rfl rfl ?_
           refine y (ev_pick0 rfl rfl) rfl ?_
           refine y (ev_pick1 rfl rfl) rfl ?_
           refine hnoP' (kthn (hK23 _ _ ?_))
           clear hK23
           refine ccond0 rfl ?_
           refine cskip' (kthn (hK22 _ _ ?_))
           clear hK22
           refine cseq ?_; intro K31 hK31
           refine creg ?_
           refine y (ev_assign rfl) rfl ?_
           refine ynil' (kthn (hK31 _ _ ?_))
           clear hK31
           refine cblock ?_
           refine cloop (A := Nat) (fun x => [(21, i64 x), (19, i64 z), (17, twoV2 tt), (15, twoV1 tt), (14, ptr p31), (13, dp q29), (0, i64 n), (1, i64 a), (2, i64 b), (3, i64 nb), (4, lv), (5, i64 k)]) (fun x => [twoA tt, twoB q29 tt, twoC tt, twoD p31 tt, dev q29 D, rdev p31 la31 E] ++ R) (fun x => x ≤ 6) (fun x => 6 - x) (0) ?_ (by repeat first | exact sub_nil | refine sub_cons rfl ?_ | refine sub_cons' rfl (by simp) ?_) (by repeat first | exact .refl | exact .nil | exact .z | apply Pk.s | refine Ge.e ?_ | apply Ge.pick | apply Ge.drop) ?_
           · exact Nat.zero_le _
           rintro s hI2 KL2 hL2
           have hs6 := hI2
           refine cseq ?_; intro K32 hK32
           refine cseq ?_; intro K33 hK33
           refine creg ?_
           refine y (ev_move rfl) rfl ?_
           refine y (ev_move rfl) rfl ?_
           refine y (ev_lss rfl rfl) rfl ?_
           refine y (ev_move rfl) rfl ?_
           refine ysplit 218 rfl (fun h143 => ?_) (fun h143 => ?_)
           ·(try simp only [sH] at h143)
            refine yg1 rfl rfl ?_
            refine y (ev_move rfl) rfl ?_
            refine yg1 rfl rfl ?_
            refine y (ev_lss rfl rfl) rfl ?_
            refine y (ev_pick1 rfl rfl) rfl ?_
            refine ynil' (kthn (hK33 _ _ ?_))
            clear hK33
            refine ccond rfl (fun h147 => ?_) (fun h147 => ?_)
            ·(try simp only [sH] at h147)
             refine cskip' (kthn (hK32 _ _ ?_))
             clear hK32
             refine cseq ?_; intro K34 hK34
             refine cblock ?_
             refine cseq ?_; intro K35 hK35
             refine creg ?_
             refine y (ev_move rfl) rfl ?_
             refine y (ev_move rfl) rfl ?_
             refine ycall (secReadU hS.r.ok) rfl Tryz.call29 (by repeat first | exact .nil | exact .z | apply Pk.s | apply Tk.cons) rfl ?_
             rintro v L' ⟨s227, rfl, ok227, rfl⟩
             refine y (ev_move rfl) rfl ?_
             refine y (ev_extract rfl rfl) rfl ?_
             refine y (ev_extract rfl rfl) rfl ?_
             refine y (ev_assign rfl) rfl ?_
             refine y (ev_assign rfl) rfl ?_
             refine ynil' (kthn (hK35 _ _ ?_))
             clear hK35
             refine cseq ?_; intro K36 hK36
             refine creg ?_
             refine y (ev_move rfl) rfl ?_
             refine y (ev_move rfl) rfl ?_
             refine ycall (rdReadU hS.r.rok (fun h => by rw [← hS.r.has] at h; obtain ⟨-, q0, q1⟩ := has_zero h; rw [← hS.r.sec q0 q1]; exact sec_length hS.r.ok _)) rfl Tryz.call30 (by repeat first | exact .nil | exact .z | apply Pk.s | apply Tk.cons) rfl ?_
             rintro v L' ⟨s233, rfl, ok233, rfl⟩
             rw [← hS.r.rdB, ← hS.r.has] at *
             have hb227 : RdB [svSeg s227 5 (bytesV (D.rdB s))] (svVal s227 (D.rdB s).length) (D.rdB s) := rdB_sv .z ok227
             have hb233 : RdB [svSeg s233 5 (bytesV (D.rdB s))] (svVal s233 (D.rdB s).length) (D.rdB s) := rdB_sv .z ok233
             generalize D.rdB s = bs at *
             refine y (ev_move rfl) rfl ?_
             refine y (ev_extract rfl rfl) rfl ?_
             refine y (ev_extract rfl rfl) rfl ?_
             refine y (ev_assign rfl) rfl ?_
             refine y (ev_assign rfl) rfl ?_
             refine ynil' (kthn (hK36 _ _ ?_))
             clear hK36
             refine cseq ?_; intro K37 hK37
             refine creg ?_
             skip
             ·skip
              refine y (ev_move rfl) rfl ?_
              refine y (ev_toStrB hb227 (by repeat first | exact .refl | exact .nil | exact .z | apply Pk.s | refine Ge.e ?_ | apply Ge.pick | apply Ge.drop) rfl Tryz.underlying47 Tryz.underlying9 Tryz.underlying5) rfl ?_
              refine y (ev_move rfl) rfl ?_
              refine y (ev_toStrB hb233 (by repeat first | exact .refl | exact .nil | exact .z | apply Pk.s | refine Ge.e ?_ | apply Ge.pick | apply Ge.drop) rfl Tryz.underlying47 Tryz.underlying9 Tryz.underlying5) rfl ?_
              first
                | refine y (ev_neqL rfl rfl) rfl ?_
                | refine y (ev_neqS rfl rfl) rfl ?_
              rw [show decide (bs ≠ bs) = false by simp]
              refine y (ev_move rfl) rfl ?_
              refine yg1 rfl rfl ?_
              refine y (ev_move rfl) rfl ?_
              refine yg1 rfl rfl ?_
              refine y (ev_move rfl) rfl ?_
              refine yg1 rfl rfl ?_
              refine y (ev_neq rfl rfl) rfl ?_
              rw [show (!decide (D.has s = D.has s)) = false by simp]
              refine y (ev_pick0 rfl rfl) rfl ?_
              refine ynil' (kthn (hK37 _ _ ?_))
              clear hK37
              refine ccond0 rfl ?_
              refine cskip' (kbn (kthn (hK34 _ _ ?_)))
              clear hK34
              refine creg ?_
              refine y (ev_move rfl) rfl ?_
              refine y (ev_add rfl rfl) rfl ?_
              rw [show IntKind.i64.wrap ((s:Int) + 1) = ((s+1 : Nat) : Int) by rw [wr (by omega) (by omega)]; rfl]
              refine y (ev_assign rfl) rfl ?_
              refine ynil' (kthn ?_)
              exact hL2 (s + 1) (by first | omega | (dsimp only; omega)) (by omega) _ _ (by repeat first | exact sub_nil | refine sub_cons rfl ?_ | refine sub_cons' rfl (by simp) ?_) (by repeat first | exact .refl | exact .nil | exact .z | apply Pk.s | refine Ge.e ?_ | apply Ge.pick | apply Ge.drop)
            ·(try simp only [sH] at h147)
             refine cexit (kthx (kthx (kbx (kbn (kthn (hK16 _ _ ?_))))))
             clear hK16
             refine creg ?_
             refine y (ev_move rfl) rfl ?_
             refine y (ev_add rfl rfl) rfl ?_
             rw [show IntKind.i64.wrap ((z:Int) + 1) = ((z+1 : Nat) : Int) by rw [wr (by omega) (by omega)]; rfl]
             refine y (ev_assign rfl) rfl ?_
             refine ynil' (kthn ?_)
             exact hL1 (z + 1, ⟨D, E, tt⟩) ⟨hS, by dsimp only; omega, by dsimp only; omega⟩ (by dsimp only; omega) _ _ (by repeat first | exact sub_nil | refine sub_cons rfl ?_ | refine sub_cons' rfl (by simp) ?_) (by repeat first | exact .refl | exact .nil | exact .z | apply Pk.s | refine Ge.e ?_ | apply Ge.pick | apply Ge.drop)
           ·(try simp only [sH] at h143)
            refine yg0 rfl rfl rfl rfl ?_
            refine yg0 rfl rfl rfl rfl ?_
            refine y (ev_pick0 rfl rfl) rfl ?_
            refine ynil' (kthn (hK33 _ _ ?_))
            clear hK33
            refine ccond0 rfl ?_
            refine cexit (kthx (kthx (kbx (kbn (kthn (hK16 _ _ ?_))))))
            clear hK16
            refine creg ?_
            refine y (ev_move rfl) rfl ?_
            refine y (ev_add rfl rfl) rfl ?_
            rw [show IntKind.i64.wrap ((z:Int) + 1) = ((z+1 : Nat) : Int) by rw [wr (by omega) (by omega)]; rfl]
            refine y (ev_assign rfl) rfl ?_
            refine ynil' (kthn ?_)
            exact hL1 (z + 1, ⟨D, E, tt⟩) ⟨hS, by dsimp only; omega, by dsimp only; omega⟩ (by dsimp only; omega) _ _ (by repeat first | exact sub_nil | refine sub_cons rfl ?_ | refine sub_cons' rfl (by simp) ?_) (by repeat first | exact .refl | exact .nil | exact .z | apply Pk.s | refine Ge.e ?_ | apply Ge.pick | apply Ge.drop)
         clear hK21
         refine cblock ?_
         refine cseq ?_; intro K38 hK38
         refine creg ?_
         rcases t with _ | ⟨⟨l1, c1⟩, ⟨l2, c2⟩, L⟩
         ·skip
          refine y (ev_fieldAddr 0 rfl Tryz.underlying37 rfl Tryz.sizeOf3) rfl ?_
          refine y (ev_load rfl Tryz.isAgg3 (by repeat first | exact .z | apply In.s) rfl) rfl ?_
          refine y (ev_eql rfl rfl) rfl ?_
          refine y (ev_move rfl) rfl ?_
          refine ysplit 90 rfl (fun h188 => ?_) (fun h188 => ?_)
          ·(try simp only [sH] at h188)
           refine yg1 rfl rfl ?_
           refine y (ev_move rfl) rfl ?_
           refine yg1 rfl rfl ?_
           refine y (ev_neqPnil rfl rfl Tryz.underlying28) rfl ?_
           refine y (ev_pick1 rfl rfl) rfl ?_
           refine y (ev_assign rfl) rfl ?_
           refine ynil' (kthn (hK38 _ _ ?_))
           clear hK38
           refine ccond0 rfl ?_
           refine cseq ?_; intro K39 hK39
           refine creg ?_
           refine y (ev_fieldAddr 0 rfl Tryz.underlying37 rfl Tryz.sizeOf3) rfl ?_
           refine y (ev_load rfl Tryz.isAgg3 (by repeat first | exact .z | apply In.s) rfl) rfl ?_
           refine y (ev_eql rfl rfl) rfl ?_
           refine y (ev_move rfl) rfl ?_
           refine ysplit 107 rfl (fun h197 => ?_) (fun h197 => ?_)
           ·(try simp only [sH] at h197)
            refine yg1 rfl rfl ?_
            refine y (ev_move rfl) rfl ?_
            refine yg1 rfl rfl ?_
            refine y (ev_neqPnil rfl rfl Tryz.underlying28) rfl ?_
            refine y (ev_pick1 rfl rfl) rfl ?_
            refine y (ev_assign rfl) rfl ?_
            refine ynil' (kthn (hK39 _ _ ?_))
            clear hK39
            refine ccond0 rfl ?_
            refine cseq ?_; intro K40 hK40
            refine creg ?_
            refine y (ev_fieldAddr 0 rfl Tryz.underlying37 rfl Tryz.sizeOf3) rfl ?_
            refine y (ev_load rfl Tryz.isAgg3 (by repeat first | exact .z | apply In.s) rfl) rfl ?_
            refine y (ev_eql rfl rfl) rfl ?_
            refine y (ev_assign rfl) rfl ?_
            refine ynil' (kthn (hK40 _ _ ?_))
            clear hK40
            refine ccond rfl (fun h206 => ?_) (fun h206 => ?_)
            ·(try simp only [sH] at h206)
             refine cseq ?_; intro K41 hK41
             refine creg ?_
             refine y (ev_move rfl) rfl ?_
             refine y (ev_fieldAddr 1 rfl Tryz.underlying37 rfl Tryz.sizeOf3) rfl ?_
             refine y (ev_load rfl Tryz.isAgg3 (by repeat first | exact .z | apply In.s) rfl) rfl ?_
             refine ycall (secFuse) rfl Tryz.call14 (by repeat first | exact .nil | exact .z | apply Pk.s | apply Tk.cons) rfl ?_
             rintro v L' ⟨rfl, rfl⟩
             refine ynil' (kthn (hK41 _ _ ?_))
             clear hK41
             refine creg ?_
             refine y (ev_move rfl) rfl ?_
             refine y (ev_fieldAddr 1 rfl Tryz.underlying37 rfl Tryz.sizeOf3) rfl ?_
             refine y (ev_load rfl Tryz.isAgg3 (by repeat first | exact .z | apply In.s) rfl) rfl ?_
             refine ycall (rdFuse) rfl Tryz.call15 (by repeat first | exact .nil | exact .z | apply Pk.s | apply Tk.cons) rfl ?_
             rintro v L' ⟨rfl, rfl⟩
             have hSn := hS.dev (hS.r.setFuse hact.n.2) (show (D.setFuse yy.n).l.length = n.toNat from hS.len)
             refine ynil' (kbn (kthn ?_))
             exact ksub (by repeat first | exact sub_nil | refine sub_cons rfl ?_ | refine sub_cons' rfl (by simp) ?_) (by repeat first | exact .refl | exact .nil | exact .z | apply Pk.s | refine Ge.e ?_ | apply Ge.pick | apply Ge.drop) (hJr36 _ hSn)
            ·(try simp only [sH] at h206)
             refine cseq ?_; intro K42 hK42
             refine creg ?_
             refine y (ev_fieldAddr 0 rfl Tryz.underlying37 rfl Tryz.sizeOf3) rfl ?_
             refine y (ev_load rfl Tryz.isAgg3 (by repeat first | exact .z | apply In.s) rfl) rfl ?_
             refine y (ev_eql rfl rfl) rfl ?_
             refine y (ev_assign rfl) rfl ?_
             refine ynil' (kthn (hK42 _ _ ?_))
             clear hK42
             refine ccond rfl (fun h219 => ?_) (fun h219 => ?_)
             ·(try simp only [sH] at h219)
              refine cseq ?_; intro K43 hK43
              refine creg ?_
              refine y (ev_move rfl) rfl ?_
              refine y (ev_fieldAddr 3 rfl Tryz.underlying37 rfl Tryz.sizeOf35) rfl ?_
              refine y (ev_load rfl Tryz.isAgg35 (by repeat first | exact .z | apply In.s) rfl) rfl ?_
              refine ycall (secCrash (ks := yy.ks) ?ok223 ?ks223) rfl Tryz.call16 (by repeat first | exact .nil | exact .z | apply Pk.s | apply Tk.cons) rfl ?_
              case ok223 => first | exact hS.r.ok | exact hS.r.rok
              case ks223 => exact hact.keeps.mono (by repeat first | exact .refl | exact .nil | exact .z | apply Pk.s | refine Ge.e ?_ | apply Ge.pick | apply Ge.drop)
              rintro v L' ⟨rfl, rfl⟩
              refine ynil' (kthn (hK43 _ _ ?_))
              clear hK43
              refine cseq ?_; intro K44 hK44
              refine creg ?_
              refine y (ev_move rfl) rfl ?_
              refine y (ev_fieldAddr 3 rfl Tryz.underlying37 rfl Tryz.sizeOf35) rfl ?_
              refine y (ev_load rfl Tryz.isAgg35 (by repeat first | exact .z | apply In.s) rfl) rfl ?_
              refine ycall (nKeeps8 (ks := yy.ks) ?ks227 ?six227) rfl Tryz.call18 (by repeat first | exact .nil | exact .z | apply Pk.s | apply Tk.cons) rfl ?_
              case ks227 => exact hact.keeps.mono (by repeat first | exact .refl | exact .nil | exact .z | apply Pk.s | refine Ge.e ?_ | apply Ge.pick | apply Ge.drop)
              case six227 => omega
              rintro v L' ⟨s139, rfl, ok139, rfl⟩
              refine ycall (rdCrash (ks := yy.ks) ?ok228 ?ks228) rfl Tryz.call17 (by repeat first | exact .nil | exact .z | apply Pk.s | apply Tk.cons) rfl ?_
              case ok228 => first | exact hS.r.ok | exact hS.r.rok
              case ks228 => exact rdV_sv (by repeat first | exact .z | apply In.s) ok139
              rintro v L' ⟨rfl, rfl⟩
              refine ynil' (kthn (hK44 _ _ ?_))
              clear hK44
              refine cseq ?_; intro K45 hK45
              refine creg ?_
              have hR1 := hS.r.crash yy.ks
              have hl1 : (D.crash yy.ks).l.length = n.toNat := by rw [← hS.len]; simp [Dev.crash, crashL_length]
              generalize D.crash yy.ks = D1 at *
              generalize E.crash yy.ks = E1 at *
              refine y (ev_move rfl) rfl ?_
              refine y (ev_move rfl) rfl ?_
              refine y (ev_move rfl) rfl ?_
              refine y (ev_move rfl) rfl ?_
              by_cases ho1 : drlE D1 a b nb = 0
              ·skip
               first | (refine ycall (dOpenOk hR1.ok ho1) rfl Tryz.call7 (by repeat first | exact .nil | exact .z | apply Pk.s | apply Tk.cons) rfl ?_; rintro v L' ⟨l49, c49, rfl, rfl⟩) | (refine ycall (dOpenBad hR1.ok rfl ho1) rfl Tryz.call7 (by repeat first | exact .nil | exact .z | apply Pk.s | apply Tk.cons) rfl ?_; rintro v L' ⟨rfl, rfl⟩)
               refine y (ev_move rfl) rfl ?_
               refine y (ev_extract rfl rfl) rfl ?_
               refine y (ev_extract rfl rfl) rfl ?_
               refine y (ev_assign rfl) rfl ?_
               refine y (ev_assign rfl) rfl ?_
               refine ynil' (kthn (hK45 _ _ ?_))
               clear hK45
               refine cseq ?_; intro K46 hK46
               refine creg ?_
               refine y (ev_move rfl) rfl ?_
               refine y (ev_move rfl) rfl ?_
               refine y (ev_move rfl) rfl ?_
               refine y (ev_move rfl) rfl ?_
               first | (refine ycall (qOpenOk hR1 ho1) rfl Tryz.call8 (by repeat first | exact .nil | exact .z | apply Pk.s | apply Tk.cons) rfl ?_; rintro v L' ⟨l57, c57, rfl, rfl⟩; have hSn := DdM.ok.two hR1 hl1 ho1 l49 c49 l57 c57) | (refine ycall (qOpenBad hR1 ho1) rfl Tryz.call8 (by repeat first | exact .nil | exact .z | apply Pk.s | apply Tk.cons) rfl ?_; rintro v L' ⟨rfl, rfl⟩; have hSn := DdM.ok.none' hR1 hl1)
               refine y (ev_move rfl) rfl ?_
               refine y (ev_extract rfl rfl) rfl ?_
               refine y (ev_extract rfl rfl) rfl ?_
               refine y (ev_assign rfl) rfl ?_
               refine y (ev_assign rfl) rfl ?_
               refine ynil' (kthn (hK46 _ _ ?_))
               clear hK46
               refine cseq ?_; intro K47 hK47
               refine creg ?_
               refine y (ev_move rfl) rfl ?_
               refine y (ev_move rfl) rfl ?_
               refine y (ev_neq rfl rfl) rfl ?_
               try rw [show (!decide (drlE D1 a b nb = drlE D1 a b nb)) = false by simp]
               refine y (ev_move rfl) rfl ?_
               refine yg1 rfl rfl ?_
               refine y (ev_move rfl) rfl ?_
               refine yg1 rfl rfl ?_
               refine y (ev_eqlPnil rfl rfl Tryz.underlying28) rfl ?_
               refine yg1 rfl rfl ?_
               refine y (ev_move rfl) rfl ?_
               refine yg1 rfl rfl ?_
               refine y (ev_eqlPnil rfl rfl Tryz.underlying32) rfl ?_
               refine yg1 rfl rfl ?_
               refine y (ev_neqB rfl rfl Tryz.underlying4) rfl ?_
               refine y (ev_pick0 rfl rfl) rfl ?_
               refine ynil' (kthn (hK47 _ _ ?_))
               clear hK47
               refine ccond0 rfl ?_
               refine cskip' (kbn (kthn ?_))
               exact ksub (by repeat first | exact sub_nil | refine sub_cons rfl ?_ | refine sub_cons' rfl (by simp) ?_) (by repeat first | exact .refl | exact .nil | exact .z | apply Pk.s | refine Ge.e ?_ | apply Ge.pick | apply Ge.drop) (hJr36 _ hSn)
              ·skip
               first | (refine ycall (dOpenOk hR1.ok ho1) rfl Tryz.call7 (by repeat first | exact .nil | exact .z | apply Pk.s | apply Tk.cons) rfl ?_; rintro v L' ⟨l49, c49, rfl, rfl⟩) | (refine ycall (dOpenBad hR1.ok rfl ho1) rfl Tryz.call7 (by repeat first | exact .nil | exact .z | apply Pk.s | apply Tk.cons) rfl ?_; rintro v L' ⟨rfl, rfl⟩)
               refine y (ev_move rfl) rfl ?_
               refine y (ev_extract rfl rfl) rfl ?_
               refine y (ev_extract rfl rfl) rfl ?_
               refine y (ev_assign rfl) rfl ?_
               refine y (ev_assign rfl) rfl ?_
               refine ynil' (kthn (hK45 _ _ ?_))
               clear hK45
               refine cseq ?_; intro K48 hK48
               refine creg ?_
               refine y (ev_move rfl) rfl ?_
               refine y (ev_move rfl) rfl ?_
               refine y (ev_move rfl) rfl ?_
               refine y (ev_move rfl) rfl ?_
               first | (refine ycall (qOpenOk hR1 ho1) rfl Tryz.call8 (by repeat first | exact .nil | exact .z | apply Pk.s | apply Tk.cons) rfl ?_; rintro v L' ⟨l57, c57, rfl, rfl⟩; have hSn := DdM.ok.two hR1 hl1 ho1 l49 c49 l57 c57) | (refine ycall (qOpenBad hR1 ho1) rfl Tryz.call8 (by repeat first | exact .nil | exact .z | apply Pk.s | apply Tk.cons) rfl ?_; rintro v L' ⟨rfl, rfl⟩; have hSn := DdM.ok.none' hR1 hl1)
               refine y (ev_move rfl) rfl ?_
               refine y (ev_extract rfl rfl) rfl ?_
               refine y (ev_extract rfl rfl) rfl ?_
               refine y (ev_assign rfl) rfl ?_
               refine y (ev_assign rfl) rfl ?_
               refine ynil' (kthn (hK48 _ _ ?_))
               clear hK48
               refine cseq ?_; intro K49 hK49
               refine creg ?_
               refine y (ev_move rfl) rfl ?_
               refine y (ev_move rfl) rfl ?_
               refine y (ev_neq rfl rfl) rfl ?_
               try rw [show (!decide (drlE D1 a b nb = drlE D1 a b nb)) = false by simp]
               refine y (ev_move rfl) rfl ?_
               refine yg1 rfl rfl ?_
               refine y (ev_move rfl) rfl ?_
               refine yg1 rfl rfl ?_
               refine y (ev_eqlPnil rfl rfl Tryz.underlying28) rfl ?_
               refine yg1 rfl rfl ?_
               refine y (ev_move rfl) rfl ?_
               refine yg1 rfl rfl ?_
               refine y (ev_eqlPnil rfl rfl Tryz.underlying32) rfl ?_
               refine yg1 rfl rfl ?_
               refine y (ev_neqB rfl rfl Tryz.underlying4) rfl ?_
               refine y (ev_pick0 rfl rfl) rfl ?_
               refine ynil' (kthn (hK49 _ _ ?_))
               clear hK49
               refine ccond0 rfl ?_
               refine cskip' (kbn (kthn ?_))
               exact ksub (by repeat first | exact sub_nil | refine sub_cons rfl ?_ | refine sub_cons' rfl (by simp) ?_) (by repeat first | exact .refl | exact .nil | exact .z | apply Pk.s | refine Ge.e ?_ | apply Ge.pick | apply Ge.drop) (hJr36 _ hSn)
             ·(try simp only [sH] at h219)
              refine cseq ?_; intro K50 hK50
              refine creg ?_
              refine y (ev_fieldAddr 0 rfl Tryz.underlying37 rfl Tryz.sizeOf3) rfl ?_
              refine y (ev_load rfl Tryz.isAgg3 (by repeat first | exact .z | apply In.s) rfl) rfl ?_
              refine y (ev_eql rfl rfl) rfl ?_
              refine y (ev_assign rfl) rfl ?_
              refine ynil' (kthn (hK50 _ _ ?_))
              clear hK50
              refine ccond rfl (fun h289 => ?_) (fun h289 => ?_)
              ·(try simp only [sH] at h289)
               refine cseq ?_; intro K51 hK51
               refine creg ?_
               refine y (ev_move rfl) rfl ?_
               refine y (ev_fieldAddr 1 rfl Tryz.underlying37 rfl Tryz.sizeOf3) rfl ?_
               refine y (ev_load rfl Tryz.isAgg3 (by repeat first | exact .z | apply In.s) rfl) rfl ?_
               refine y (ev_fieldAddr 2 rfl Tryz.underlying37 rfl Tryz.sizeOf9) rfl ?_
               refine y (ev_load rfl Tryz.isAgg9 (by repeat first | exact .z | apply In.s) rfl) rfl ?_
               refine ya (ac_toBytesY rfl Tryz.underlying9 Tryz.underlying47 Tryz.underlying5) rfl ?_
               rintro v L' ⟨b176, c176, sp176, fr176, rfl, hc176, rfl⟩
               refine ycall (secWrite (bs := yy.s) ?ok296 ?rd296) rfl Tryz.call19 (by repeat first | exact .nil | exact .z | apply Pk.s | apply Tk.cons) rfl ?_
               case ok296 => first | exact hS.r.ok | exact hS.r.rok
               case rd296 => exact rdB_in (by repeat first | exact .z | apply In.s) rfl (by simp)
               rintro v L' ⟨rfl, rfl⟩
               refine ynil' (kthn (hK51 _ _ ?_))
               clear hK51
               refine creg ?_
               refine y (ev_move rfl) rfl ?_
               refine y (ev_fieldAddr 1 rfl Tryz.underlying37 rfl Tryz.sizeOf3) rfl ?_
               refine y (ev_load rfl Tryz.isAgg3 (by repeat first | exact .z | apply In.s) rfl) rfl ?_
               refine y (ev_fieldAddr 2 rfl Tryz.underlying37 rfl Tryz.sizeOf9) rfl ?_
               refine y (ev_load rfl Tryz.isAgg9 (by repeat first | exact .z | apply In.s) rfl) rfl ?_
               refine ya (ac_toBytesY rfl Tryz.underlying9 Tryz.underlying47 Tryz.underlying5) rfl ?_
               rintro v L' ⟨b183, c183, sp183, fr183, rfl, hc183, rfl⟩
               refine ycall (rdWrite (bs := yy.s) ?ok303 ?rd303) rfl Tryz.call20 (by repeat first | exact .nil | exact .z | apply Pk.s | apply Tk.cons) rfl ?_
               case ok303 => first | exact hS.r.ok | exact hS.r.rok
               case rd303 => exact rdB_in (by repeat first | exact .z | apply In.s) rfl (by simp)
               rintro v L' ⟨rfl, rfl⟩
               obtain ⟨e1, e2⟩ := hS.r.write yy.n yy.s
               have hSn := hS.dev e2 (show (D.write yy.n yy.s).2.l.length = n.toNat by rw [write_l]; exact hS.len)
               refine ynil' (kbn (kthn ?_))
               exact ksub (by repeat first | exact sub_nil | refine sub_cons rfl ?_ | refine sub_cons' rfl (by simp) ?_) (by repeat first | exact .refl | exact .nil | exact .z | apply Pk.s | refine Ge.e ?_ | apply Ge.pick | apply Ge.drop) (hJr36 _ hSn)
              ·(try simp only [sH] at h289)
               have hSn := hS
               refine cskip' (kbn (kthn ?_))
               exact ksub (by repeat first | exact sub_nil | refine sub_cons rfl ?_ | refine sub_cons' rfl (by simp) ?_) (by repeat first | exact .refl | exact .nil | exact .z | apply Pk.s | refine Ge.e ?_ | apply Ge.pick | apply Ge.drop) (hJr36 _ hSn)
           ·(try simp only [sH] at h197)
            refine yg0 rfl rfl rfl rfl ?_
            refine yg0 rfl rfl rfl rfl ?_
            refine y (ev_pick0 rfl rfl) rfl ?_
            refine y (ev_assign rfl) rfl ?_
            refine ynil' (kthn (hK39 _ _ ?_))
            clear hK39
            refine ccond0 rfl ?_
            refine cseq ?_; intro K52 hK52
            refine creg ?_
            refine y (ev_fieldAddr 0 rfl Tryz.underlying37 rfl Tryz.sizeOf3) rfl ?_
            refine y (ev_load rfl Tryz.isAgg3 (by repeat first | exact .z | apply In.s) rfl) rfl ?_
            refine y (ev_eql rfl rfl) rfl ?_
            refine y (ev_assign rfl) rfl ?_
            refine ynil' (kthn (hK52 _ _ ?_))
            clear hK52
            refine ccond rfl (fun h310 => ?_) (fun h310 => ?_)
            ·(try simp only [sH] at h310)
             refine cseq ?_; intro K53 hK53
             refine creg ?_
             refine y (ev_move rfl) rfl ?_
             refine y (ev_fieldAddr 1 rfl Tryz.underlying37 rfl Tryz.sizeOf3) rfl ?_
             refine y (ev_load rfl Tryz.isAgg3 (by repeat first | exact .z | apply In.s) rfl) rfl ?_
             refine ycall (secFuse) rfl Tryz.call14 (by repeat first | exact .nil | exact .z | apply Pk.s | apply Tk.cons) rfl ?_
             rintro v L' ⟨rfl, rfl⟩
             refine ynil' (kthn (hK53 _ _ ?_))
             clear hK53
             refine creg ?_
             refine y (ev_move rfl) rfl ?_
             refine y (ev_fieldAddr 1 rfl Tryz.underlying37 rfl Tryz.sizeOf3) rfl ?_
             refine y (ev_load rfl Tryz.isAgg3 (by repeat first | exact .z | apply In.s) rfl) rfl ?_
             refine ycall (rdFuse) rfl Tryz.call15 (by repeat first | exact .nil | exact .z | apply Pk.s | apply Tk.cons) rfl ?_
             rintro v L' ⟨rfl, rfl⟩
             have hSn := hS.dev (hS.r.setFuse hact.n.2) (show (D.setFuse yy.n).l.length = n.toNat from hS.len)
             refine ynil' (kbn (kthn ?_))
             exact ksub (by repeat first | exact sub_nil | refine sub_cons rfl ?_ | refine sub_cons' rfl (by simp) ?_) (by repeat first | exact .refl | exact .nil | exact .z | apply Pk.s | refine Ge.e ?_ | apply Ge.pick | apply Ge.drop) (hJr36 _ hSn)
            ·(try simp only [sH] at h310)
             refine cseq ?_; intro K54 hK54
             refine creg ?_
             refine y (ev_fieldAddr 0 rfl Tryz.underlying37 rfl Tryz.sizeOf3) rfl ?_
             refine y (ev_load rfl Tryz.isAgg3 (by repeat first | exact .z | apply In.s) rfl) rfl ?_
             refine y (ev_eql rfl rfl) rfl ?_
             refine y (ev_assign rfl) rfl ?_
             refine ynil' (kthn (hK54 _ _ ?_))
             clear hK54
             refine ccond rfl (fun h323 => ?_) (fun h323 => ?_)
             ·(try simp only [sH] at h323)
              refine cseq ?_; intro K55 hK55
              refine creg ?_
              refine y (ev_move rfl) rfl ?_
              refine y (ev_fieldAddr 3 rfl Tryz.underlying37 rfl Tryz.sizeOf35) rfl ?_
              refine y (ev_load rfl Tryz.isAgg35 (by repeat first | exact .z | apply In.s) rfl) rfl ?_
              refine ycall (secCrash (ks := yy.ks) ?ok327 ?ks327) rfl Tryz.call16 (by repeat first | exact .nil | exact .z | apply Pk.s | apply Tk.cons) rfl ?_
              case ok327 => first | exact hS.r.ok | exact hS.r.rok
              case ks327 => exact hact.keeps.mono (by repeat first | exact .refl | exact .nil | exact .z | apply Pk.s | refine Ge.e ?_ | apply Ge.pick | apply Ge.drop)
              rintro v L' ⟨rfl, rfl⟩
              refine ynil' (kthn (hK55 _ _ ?_))
              clear hK55
              refine cseq ?_; intro K56 hK56
              refine creg ?_
              refine y (ev_move rfl) rfl ?_
              refine y (ev_fieldAddr 3 rfl Tryz.underlying37 rfl Tryz.sizeOf35) rfl ?_
              refine y (ev_load rfl Tryz.isAgg35 (by repeat first | exact .z | apply In.s) rfl) rfl ?_
              refine ycall (nKeeps8 (ks := yy.ks) ?ks331 ?six331) rfl Tryz.call18 (by repeat first | exact .nil | exact .z | apply Pk.s | apply Tk.cons) rfl ?_
              case ks331 => exact hact.keeps.mono (by repeat first | exact .refl | exact .nil | exact .z | apply Pk.s | refine Ge.e ?_ | apply Ge.pick | apply Ge.drop)
              case six331 => omega
              rintro v L' ⟨s139, rfl, ok139, rfl⟩
              refine ycall (rdCrash (ks := yy.ks) ?ok332 ?ks332) rfl Tryz.call17 (by repeat first | exact .nil | exact .z | apply Pk.s | apply Tk.cons) rfl ?_
              case ok332 => first | exact hS.r.ok | exact hS.r.rok
              case ks332 => exact rdV_sv (by repeat first | exact .z | apply In.s) ok139
              rintro v L' ⟨rfl, rfl⟩
              refine ynil' (kthn (hK56 _ _ ?_))
              clear hK56
              refine cseq ?_; intro K57 hK57
              refine creg ?_
              have hR1 := hS.r.crash yy.ks
              have hl1 : (D.crash yy.ks).l.length = n.toNat := by rw [← hS.len]; simp [Dev.crash, crashL_length]
              generalize D.crash yy.ks = D1 at *
              generalize E.crash yy.ks = E1 at *
              refine y (ev_move rfl) rfl ?_
              refine y (ev_move rfl) rfl ?_
              refine y (ev_move rfl) rfl ?_
              refine y (ev_move rfl) rfl ?_
              by_cases ho1 : drlE D1 a b nb = 0
              ·skip
               first | (refine ycall (dOpenOk hR1.ok ho1) rfl Tryz.call7 (by repeat first | exact .nil | exact .z | apply Pk.s | apply Tk.cons) rfl ?_; rintro v L' ⟨l49, c49, rfl, rfl⟩) | (refine ycall (dOpenBad hR1.ok rfl ho1) rfl Tryz.call7 (by repeat first | exact .nil | exact .z | apply Pk.s | apply Tk.cons) rfl ?_; rintro v L' ⟨rfl, rfl⟩)
               refine y (ev_move rfl) rfl ?_
               refine y (ev_extract rfl rfl) rfl ?_
               refine y (ev_extract rfl rfl) rfl ?_
               refine y (ev_assign rfl) rfl ?_
               refine y (ev_assign rfl) rfl ?_
               refine ynil' (kthn (hK57 _ _ ?_))
               clear hK57
               refine cseq ?_; intro K58 hK58
               refine creg ?_
               refine y (ev_move rfl) rfl ?_
               refine y (ev_move rfl) rfl ?_
               refine y (ev_move rfl) rfl ?_
               refine y (ev_move rfl) rfl ?_
               first | (refine ycall (qOpenOk hR1 ho1) rfl Tryz.call8 (by repeat first | exact .nil | exact .z | apply Pk.s | apply Tk.cons) rfl ?_; rintro v L' ⟨l57, c57, rfl, rfl⟩; have hSn := DdM.ok.two hR1 hl1 ho1 l49 c49 l57 c57) | (refine ycall (qOpenBad hR1 ho1) rfl Tryz.call8 (by repeat first | exact .nil | exact .z | apply Pk.s | apply Tk.cons) rfl ?_; rintro v L' ⟨rfl, rfl⟩; have hSn := DdM.ok.none' hR1 hl1)
               refine y (ev_move rfl) rfl ?_
               refine y (ev_extract rfl rfl) rfl ?_
               refine y (ev_extract rfl rfl) rfl ?_
               refine y (ev_assign rfl) rfl ?_
               refine y (ev_assign rfl) rfl ?_
               refine ynil' (kthn (hK58 _ _ ?_))
               clear hK58
               refine cseq ?_; intro K59 hK59
               refine creg ?_
               refine y (ev_move rfl) rfl ?_
               refine y (ev_move rfl) rfl ?_
               refine y (ev_neq rfl rfl) rfl ?_
               try rw [show (!decide (drlE D1 a b nb = drlE D1 a b nb)) = false by simp]
               refine y (ev_move rfl) rfl ?_
               refine yg1 rfl rfl ?_
               refine y (ev_move rfl) rfl ?_
               refine yg1 rfl rfl ?_
               refine y (ev_eqlPnil rfl rfl Tryz.underlying28) rfl ?_
               refine yg1 rfl rfl ?_
               refine y (ev_move rfl) rfl ?_
               refine yg1 rfl rfl ?_
               refine y (ev_eqlPnil rfl rfl Tryz.underlying32) rfl ?_
               refine yg1 rfl rfl ?_
               refine y (ev_neqB rfl rfl Tryz.underlying4) rfl ?_
               refine y (ev_pick0 rfl rfl) rfl ?_
               refine ynil' (kthn (hK59 _ _ ?_))
               clear hK59
               refine ccond0 rfl ?_
               refine cskip' (kbn (kthn ?_))
               exact ksub (by repeat first | exact sub_nil | refine sub_cons rfl ?_ | refine sub_cons' rfl (by simp) ?_) (by repeat first | exact .refl | exact .nil | exact .z | apply Pk.s | refine Ge.e ?_ | apply Ge.pick | apply Ge.drop) (hJr36 _ hSn)
              ·skip
               first | (refine ycall (dOpenOk hR1.ok ho1) rfl Tryz.call7 (by repeat first | exact .nil | exact .z | apply Pk.s | apply Tk.cons) rfl ?_; rintro v L' ⟨l49, c49, rfl, rfl⟩) | (refine ycall (dOpenBad hR1.ok rfl ho1) rfl Tryz.call7 (by repeat first | exact .nil | exact .z | apply Pk.s | apply Tk.cons) rfl ?_; rintro v L' ⟨rfl, rfl⟩)
               refine y (ev_move rfl) rfl ?_
               refine y (ev_extract rfl rfl) rfl ?_
               refine y (ev_extract rfl rfl) rfl ?_
               refine y (ev_assign rfl) rfl ?_
               refine y (ev_assign rfl) rfl ?_
               refine ynil' (kthn (hK57 _ _ ?_))
               clear hK57
               refine cseq ?_; intro K60 hK60
               refine creg ?_
               refine y (ev_move rfl) rfl ?_
               refine y (ev_move rfl) rfl ?_
               refine y (ev_move rfl) rfl ?_
               refine y (ev_move rfl) rfl ?_
               first | (refine ycall (qOpenOk hR1 ho1) rfl Tryz.call8 (by repeat first | exact .nil | exact .z | apply Pk.s | apply Tk.cons) rfl ?_; rintro v L' ⟨l57, c57, rfl, rfl⟩; have hSn := DdM.ok.two hR1 hl1 ho1 l49 c49 l57 c57) | (refine ycall (qOpenBad hR1 ho1) rfl Tryz.call8 (by repeat first | exact .nil | exact .z | apply Pk.s | apply Tk.cons) rfl ?_; rintro v L' ⟨rfl, rfl⟩; have hSn := DdM.ok.none' hR1 hl1)
               refine y (ev_move rfl) rfl ?_
               refine y (ev_extract rfl rfl) rfl ?_
               refine y (ev_extract rfl rfl) rfl ?_
               refine y (ev_assign rfl) rfl ?_
               refine y (ev_assign rfl) rfl ?_
               refine ynil' (kthn (hK60 _ _ ?_))
               clear hK60
               refine cseq ?_; intro K61 hK61
               refine creg ?_
               refine y (ev_move rfl) rfl ?_
               refine y (ev_move rfl) rfl ?_
               refine y (ev_neq rfl rfl) rfl ?_
               try rw [show (!decide (drlE D1 a b nb = drlE D1 a b nb)) = false by simp]
               refine y (ev_move rfl) rfl ?_
               refine yg1 rfl rfl ?_
               refine y (ev_move rfl) rfl ?_
               refine yg1 rfl rfl ?_
               refine y (ev_eqlPnil rfl rfl Tryz.underlying28) rfl ?_
               refine yg1 rfl rfl ?_
               refine y (ev_move rfl) rfl ?_
               refine yg1 rfl rfl ?_
               refine y (ev_eqlPnil rfl rfl Tryz.underlying32) rfl ?_
               refine yg1 rfl rfl ?_
               refine y (ev_neqB rfl rfl Tryz.underlying4) rfl ?_
               refine y (ev_pick0 rfl rfl) rfl ?_
               refine ynil' (kthn (hK61 _ _ ?_))
               clear hK61
               refine ccond0 rfl ?_
               refine cskip' (kbn (kthn ?_))
               exact ksub (by repeat first | exact sub_nil | refine sub_cons rfl ?_ | refine sub_cons' rfl (by simp) ?_) (by repeat first | exact .refl | exact .nil | exact .z | apply Pk.s | refine Ge.e ?_ | apply Ge.pick | apply Ge.drop) (hJr36 _ hSn)
             ·(try simp only [sH] at h323)
              refine cseq ?_; intro K62 hK62
              refine creg ?_
              refine y (ev_fieldAddr 0 rfl Tryz.underlying37 rfl Tryz.sizeOf3) rfl ?_
              refine y (ev_load rfl Tryz.isAgg3 (by repeat first | exact .z | apply In.s) rfl) rfl ?_
              refine y (ev_eql rfl rfl) rfl ?_
              refine y (ev_assign rfl) rfl ?_
              refine ynil' (kthn (hK62 _ _ ?_))
              clear hK62
              refine ccond rfl (fun h393 => ?_) (fun h393 => ?_)
              ·(try simp only [sH] at h393)
               refine cseq ?_; intro K63 hK63
               refine creg ?_
               refine y (ev_move rfl) rfl ?_
               refine y (ev_fieldAddr 1 rfl Tryz.underlying37 rfl Tryz.sizeOf3) rfl ?_
               refine y (ev_load rfl Tryz.isAgg3 (by repeat first | exact .z | apply In.s) rfl) rfl ?_
               refine y (ev_fieldAddr 2 rfl Tryz.underlying37 rfl Tryz.sizeOf9) rfl ?_
               refine y (ev_load rfl Tryz.isAgg9 (by repeat first | exact .z | apply In.s) rfl) rfl ?_
               refine ya (ac_toBytesY rfl Tryz.underlying9 Tryz.underlying47 Tryz.underlying5) rfl ?_
               rintro v L' ⟨b176, c176, sp176, fr176, rfl, hc176, rfl⟩
               refine ycall (secWrite (bs := yy.s) ?ok400 ?rd400) rfl Tryz.call19 (by repeat first | exact .nil | exact .z | apply Pk.s | apply Tk.cons) rfl ?_
               case ok400 => first | exact hS.r.ok | exact hS.r.rok
               case rd400 => exact rdB_in (by repeat first | exact .z | apply In.s) rfl (by simp)
               rintro v L' ⟨rfl, rfl⟩
               refine ynil' (kthn (hK63 _ _ ?_))
               clear hK63
               refine creg ?_
               refine y (ev_move rfl) rfl ?_
               refine y (ev_fieldAddr 1 rfl Tryz.underlying37 rfl Tryz.sizeOf3) rfl ?_
               refine y (ev_load rfl Tryz.isAgg3 (by repeat first | exact .z | apply In.s) rfl) rfl ?_
               refine y (ev_fieldAddr 2 rfl Tryz.underlying37 rfl Tryz.sizeOf9) rfl ?_
               refine y (ev_load rfl Tryz.isAgg9 (by repeat first | exact .z | apply In.s) rfl) rfl ?_
               refine ya (ac_toBytesY rfl Tryz.underlying9 Tryz.underlying47 Tryz.underlying5) rfl ?_
               rintro v L' ⟨b183, c183, sp183, fr183, rfl, hc183, rfl⟩
               refine ycall (rdWrite (bs := yy.s) ?ok407 ?rd407) rfl Tryz.call20 (by repeat first | exact .nil | exact .z | apply Pk.s | apply Tk.cons) rfl ?_
               case ok407 => first | exact hS.r.ok | exact hS.r.rok
               case rd407 => exact rdB_in (by repeat first | exact .z | apply In.s) rfl (by simp)
               rintro v L' ⟨rfl, rfl⟩
               obtain ⟨e1, e2⟩ := hS.r.write yy.n yy.s
               have hSn := hS.dev e2 (show (D.write yy.n yy.s).2.l.length = n.toNat by rw [write_l]; exact hS.len)
               refine ynil' (kbn (kthn ?_))
               exact ksub (by repeat first | exact sub_nil | refine sub_cons rfl ?_ | refine sub_cons' rfl (by simp) ?_) (by repeat first | exact .refl | exact .nil | exact .z | apply Pk.s | refine Ge.e ?_ | apply Ge.pick | apply Ge.drop) (hJr36 _ hSn)
              ·(try simp only [sH] at h393)
               have hSn := hS
               refine cskip' (kbn (kthn ?_))
               exact ksub (by repeat first | exact sub_nil | refine sub_cons rfl ?_ | refine sub_cons' rfl (by simp) ?_) (by repeat first | exact .refl | exact .nil | exact .z | apply Pk.s | refine Ge.e ?_ | apply Ge.pick | apply Ge.drop) (hJr36 _ hSn)
          ·(try simp only [sH] at h188)
           refine yg0 rfl rfl rfl rfl ?_
           refine yg0 rfl rfl rfl rfl ?_
           refine y (ev_pick0 rfl rfl) rfl ?_
           refine y (ev_assign rfl) rfl ?_
           refine ynil' (kthn (hK38 _ _ ?_))
           clear hK38
           refine ccond0 rfl ?_
           refine cseq ?_; intro K64 hK64
           refine creg ?_
           refine y (ev_fieldAddr 0 rfl Tryz.underlying37 rfl Tryz.sizeOf3) rfl ?_
           refine y (ev_load rfl Tryz.isAgg3 (by repeat first | exact .z | apply In.s) rfl) rfl ?_
           refine y (ev_eql rfl rfl) rfl ?_
           refine y (ev_move rfl) rfl ?_
           refine ysplit 107 rfl (fun h414 => ?_) (fun h414 => ?_)
           ·(try simp only [sH] at h414)
            refine yg1 rfl rfl ?_
            refine y (ev_move rfl) rfl ?_
            refine yg1 rfl rfl ?_
            refine y (ev_neqPnil rfl rfl Tryz.underlying28) rfl ?_
            refine y (ev_pick1 rfl rfl) rfl ?_
            refine y (ev_assign rfl) rfl ?_
            refine ynil' (kthn (hK64 _ _ ?_))
            clear hK64
            refine ccond0 rfl ?_
            refine cseq ?_; intro K65 hK65
            refine creg ?_
            refine y (ev_fieldAddr 0 rfl Tryz.underlying37 rfl Tryz.sizeOf3) rfl ?_
            refine y (ev_load rfl Tryz.isAgg3 (by repeat first | exact .z | apply In.s) rfl) rfl ?_
            refine y (ev_eql rfl rfl) rfl ?_
            refine y (ev_assign rfl) rfl ?_
            refine ynil' (kthn (hK65 _ _ ?_))
            clear hK65
            refine ccond rfl (fun h423 => ?_) (fun h423 => ?_)
            ·(try simp only [sH] at h423)
             refine cseq ?_; intro K66 hK66
             refine creg ?_
             refine y (ev_move rfl) rfl ?_
             refine y (ev_fieldAddr 1 rfl Tryz.underlying37 rfl Tryz.sizeOf3) rfl ?_
             refine y (ev_load rfl Tryz.isAgg3 (by repeat first | exact .z | apply In.s) rfl) rfl ?_
             refine ycall (secFuse) rfl Tryz.call14 (by repeat first | exact .nil | exact .z | apply Pk.s | apply Tk.cons) rfl ?_
             rintro v L' ⟨rfl, rfl⟩
             refine ynil' (kthn (hK66 _ _ ?_))
             clear hK66
             refine creg ?_
             refine y (ev_move rfl) rfl ?_
             refine y (ev_fieldAddr 1 rfl Tryz.underlying37 rfl Tryz.sizeOf3) rfl ?_
             refine y (ev_load rfl Tryz.isAgg3 (by repeat first | exact .z | apply In.s) rfl) rfl ?_
             refine ycall (rdFuse) rfl Tryz.call15 (by repeat first | exact .nil | exact .z | apply Pk.s | apply Tk.cons) rfl ?_
             rintro v L' ⟨rfl, rfl⟩
             have hSn := hS.dev (hS.r.setFuse hact.n.2) (show (D.setFuse yy.n).l.length = n.toNat from hS.len)
             refine ynil' (kbn (kthn ?_))
             exact ksub (by repeat first | exact sub_nil | refine sub_cons rfl ?_ | refine sub_cons' rfl (by simp) ?_) (by repeat first | exact .refl | exact .nil | exact .z | apply Pk.s | refine Ge.e ?_ | apply Ge.pick | apply Ge.drop) (hJr36 _ hSn)
            ·(try simp only [sH] at h423)
             refine cseq ?_; intro K67 hK67
             refine creg ?_
             refine y (ev_fieldAddr 0 rfl Tryz.underlying37 rfl Tryz.sizeOf3) rfl ?_
             refine y (ev_load rfl Tryz.isAgg3 (by repeat first | exact .z | apply In.s) rfl) rfl ?_
             refine y (ev_eql rfl rfl) rfl ?_
             refine y (ev_assign rfl) rfl ?_
             refine ynil' (kthn (hK67 _ _ ?_))
             clear hK67
             refine ccond rfl (fun h436 => ?_) (fun h436 => ?_)
             ·(try simp only [sH] at h436)
              refine cseq ?_; intro K68 hK68
              refine creg ?_
              refine y (ev_move rfl) rfl ?_
              refine y (ev_fieldAddr 3 rfl Tryz.underlying37 rfl Tryz.sizeOf35) rfl ?_
              refine y (ev_load rfl Tryz.isAgg35 (by repeat first | exact .z | apply In.s) rfl) rfl ?_
              refine ycall (secCrash (ks := yy.ks) ?ok440 ?ks440) rfl Tryz.call16 (by repeat first | exact .nil | exact .z | apply Pk.s | apply Tk.cons) rfl ?_
              case ok440 => first | exact hS.r.ok | exact hS.r.rok
              case ks440 => exact hact.keeps.mono (by repeat first | exact .refl | exact .nil | exact .z | apply Pk.s | refine Ge.e ?_ | apply Ge.pick | apply Ge.drop)
              rintro v L' ⟨rfl, rfl⟩
              refine ynil' (kthn (hK68 _ _ ?_))
              clear hK68
              refine cseq ?_; intro K69 hK69
              refine creg ?_
              refine y (ev_move rfl) rfl ?_
              refine y (ev_fieldAddr 3 rfl Tryz.underlying37 rfl Tryz.sizeOf35) rfl ?_
              refine y (ev_load rfl Tryz.isAgg35 (by repeat first | exact .z | apply In.s) rfl) rfl ?_
              refine ycall (nKeeps8 (ks := yy.ks) ?ks444 ?six444) rfl Tryz.call18 (by repeat first | exact .nil | exact .z | apply Pk.s | apply Tk.cons) rfl ?_
              case ks444 => exact hact.keeps.mono (by repeat first | exact .refl | exact .nil | exact .z | apply Pk.s | refine Ge.e ?_ | apply Ge.pick | apply Ge.drop)
              case six444 => omega
              rintro v L' ⟨s139, rfl, ok139, rfl⟩
              refine ycall (rdCrash (ks := yy.ks) ?ok445 ?ks445) rfl Tryz.call17 (by repeat first | exact .nil | exact .z | apply Pk.s | apply Tk.cons) rfl ?_
              case ok445 => first | exact hS.r.ok | exact hS.r.rok
              case ks445 => exact rdV_sv (by repeat first | exact .z | apply In.s) ok139
              rintro v L' ⟨rfl, rfl⟩
              refine ynil' (kthn (hK69 _ _ ?_))
              clear hK69
              refine cseq ?_; intro K70 hK70
              refine creg ?_
              have hR1 := hS.r.crash yy.ks
              have hl1 : (D.crash yy.ks).l.length = n.toNat := by rw [← hS.len]; simp [Dev.crash, crashL_length]
              generalize D.crash yy.ks = D1 at *
              generalize E.crash yy.ks = E1 at *
              refine y (ev_move rfl) rfl ?_
              refine y (ev_move rfl) rfl ?_
              refine y (ev_move rfl) rfl ?_
              refine y (ev_move rfl) rfl ?_
              by_cases ho1 : drlE D1 a b nb = 0
              ·skip
               first | (refine ycall (dOpenOk hR1.ok ho1) rfl Tryz.call7 (by repeat first | exact .nil | exact .z | apply Pk.s | apply Tk.cons) rfl ?_; rintro v L' ⟨l49, c49, rfl, rfl⟩) | (refine ycall (dOpenBad hR1.ok rfl ho1) rfl Tryz.call7 (by repeat first | exact .nil | exact .z | apply Pk.s | apply Tk.cons) rfl ?_; rintro v L' ⟨rfl, rfl⟩)
               refine y (ev_move rfl) rfl ?_
               refine y (ev_extract rfl rfl) rfl ?_
               refine y (ev_extract rfl rfl) rfl ?_
               refine y (ev_assign rfl) rfl ?_
               refine y (ev_assign rfl) rfl ?_
               refine ynil' (kthn (hK70 _ _ ?_))
               clear hK70
               refine cseq ?_; intro K71 hK71
               refine creg ?_
               refine y (ev_move rfl) rfl ?_
               refine y (ev_move rfl) rfl ?_
               refine y (ev_move rfl) rfl ?_
               refine y (ev_move rfl) rfl ?_
               first | (refine ycall (qOpenOk hR1 ho1) rfl Tryz.call8 (by repeat first | exact .nil | exact .z | apply Pk.s | apply Tk.cons) rfl ?_; rintro v L' ⟨l57, c57, rfl, rfl⟩; have hSn := DdM.ok.two hR1 hl1 ho1 l49 c49 l57 c57) | (refine ycall (qOpenBad hR1 ho1) rfl Tryz.call8 (by repeat first | exact .nil | exact .z | apply Pk.s | apply Tk.cons) rfl ?_; rintro v L' ⟨rfl, rfl⟩; have hSn := DdM.ok.none' hR1 hl1)
               refine y (ev_move rfl) rfl ?_
               refine y (ev_extract rfl rfl) rfl ?_
               refine y (ev_extract rfl rfl) rfl ?_
               refine y (ev_assign rfl) rfl ?_
               refine y (ev_assign rfl) rfl ?_
               refine ynil' (kthn (hK71 _ _ ?_))
               clear hK71
               refine cseq ?_; intro K72 hK72
               refine creg ?_
               refine y (ev_move rfl) rfl ?_
               refine y (ev_move rfl) rfl ?_
               refine y (ev_neq rfl rfl) rfl ?_
               try rw [show (!decide (drlE D1 a b nb = drlE D1 a b nb)) = false by simp]
               refine y (ev_move rfl) rfl ?_
               refine yg1 rfl rfl ?_
               refine y (ev_move rfl) rfl ?_
               refine yg1 rfl rfl ?_
               refine y (ev_eqlPnil rfl rfl Tryz.underlying28) rfl ?_
               refine yg1 rfl rfl ?_
               refine y (ev_move rfl) rfl ?_
               refine yg1 rfl rfl ?_
               refine y (ev_eqlPnil rfl rfl Tryz.underlying32) rfl ?_
               refine yg1 rfl rfl ?_
               refine y (ev_neqB rfl rfl Tryz.underlying4) rfl ?_
               refine y (ev_pick0 rfl rfl) rfl ?_
               refine ynil' (kthn (hK72 _ _ ?_))
               clear hK72
               refine ccond0 rfl ?_
               refine cskip' (kbn (kthn ?_))
               exact ksub (by repeat first | exact sub_nil | refine sub_cons rfl ?_ | refine sub_cons' rfl (by simp) ?_) (by repeat first | exact .refl | exact .nil | exact .z | apply Pk.s | refine Ge.e ?_ | apply Ge.pick | apply Ge.drop) (hJr36 _ hSn)
              ·skip
               first | (refine ycall (dOpenOk hR1.ok ho1) rfl Tryz.call7 (by repeat first | exact .nil | exact .z | apply Pk.s | apply Tk.cons) rfl ?_; rintro v L' ⟨l49, c49, rfl, rfl⟩) | (refine ycall (dOpenBad hR1.ok rfl ho1) rfl Tryz.call7 (by repeat first | exact .nil | exact .z | apply Pk.s | apply Tk.cons) rfl ?_; rintro v L' ⟨rfl, rfl⟩)
               refine y (ev_move rfl) rfl ?_
               refine y (ev_extract rfl rfl) rfl ?_
               refine y (ev_extract rfl rfl) rfl ?_
               refine y (ev_assign rfl) rfl ?_
               refine y (ev_assign rfl) rfl ?_
               refine ynil' (kthn (hK70 _ _ ?_))
               clear hK70
               refine cseq ?_; intro K73 hK73
               refine creg ?_
               refine y (ev_move rfl) rfl ?_
               refine y (ev_move rfl) rfl ?_
               refine y (ev_move rfl) rfl ?_
               refine y (ev_move rfl) rfl ?_
               first | (refine ycall (qOpenOk hR1 ho1) rfl Tryz.call8 (by repeat first | exact .nil | exact .z | apply Pk.s | apply Tk.cons) rfl ?_; rintro v L' ⟨l57, c57, rfl, rfl⟩; have hSn := DdM.ok.two hR1 hl1 ho1 l49 c49 l57 c57) | (refine ycall (qOpenBad hR1 ho1) rfl Tryz.call8 (by repeat first | exact .nil | exact .z | apply Pk.s | apply Tk.cons) rfl ?_; rintro v L' ⟨rfl, rfl⟩; have hSn := DdM.ok.none' hR1 hl1)
               refine y (ev_move rfl) rfl ?_
               refine y (ev_extract rfl rfl) rfl ?_
               refine y (ev_extract rfl rfl) rfl ?_
               refine y (ev_assign rfl) rfl ?_
               refine y (ev_assign rfl) rfl ?_
               refine ynil' (kthn (hK73 _ _ ?_))
               clear hK73
               refine cseq ?_; intro K74 hK74
               refine creg ?_
               refine y (ev_move rfl) rfl ?_
               refine y (ev_move rfl) rfl ?_
               refine y (ev_neq rfl rfl) rfl ?_
               try rw [show (!decide (drlE D1 a b nb = drlE D1 a b nb)) = false by simp]
               refine y (ev_move rfl) rfl ?_
               refine yg1 rfl rfl ?_
               refine y (ev_move rfl) rfl ?_
               refine yg1 rfl rfl ?_
               refine y (ev_eqlPnil rfl rfl Tryz.underlying28) rfl ?_
               refine yg1 rfl rfl ?_
               refine y (ev_move rfl) rfl ?_
               refine yg1 rfl rfl ?_
               refine y (ev_eqlPnil rfl rfl Tryz.underlying32) rfl ?_
               refine yg1 rfl rfl ?_
               refine y (ev_neqB rfl rfl Tryz.underlying4) rfl ?_
               refine y (ev_pick0 rfl rfl) rfl ?_
               refine ynil' (kthn (hK74 _ _ ?_))
               clear hK74
               refine ccond0 rfl ?_
               refine cskip' (kbn (kthn ?_))
               exact ksub (by repeat first | exact sub_nil | refine sub_cons rfl ?_ | refine sub_cons' rfl (by simp) ?_) (by repeat first | exact .refl | exact .nil | exact .z | apply Pk.s | refine Ge.e ?_ | apply Ge.pick | apply Ge.drop) (hJr36 _ hSn)
             ·(try simp only [sH] at h436)
              refine cseq ?_; intro K75 hK75
              refine creg ?_
              refine y (ev_fieldAddr 0 rfl Tryz.underlying37 rfl Tryz.sizeOf3) rfl ?_
              refine y (ev_load rfl Tryz.isAgg3 (by repeat first | exact .z | apply In.s) rfl) rfl ?_
              refine y (ev_eql rfl rfl) rfl ?_
              refine y (ev_assign rfl) rfl ?_
              refine ynil' (kthn (hK75 _ _ ?_))
              clear hK75
              refine ccond rfl (fun h506 => ?_) (fun h506 => ?_)
              ·(try simp only [sH] at h506)
               refine cseq ?_; intro K76 hK76
               refine creg ?_
               refine y (ev_move rfl) rfl ?_
               refine y (ev_fieldAddr 1 rfl Tryz.underlying37 rfl Tryz.sizeOf3) rfl ?_
               refine y (ev_load rfl Tryz.isAgg3 (by repeat first | exact .z | apply In.s) rfl) rfl ?_
               refine y (ev_fieldAddr 2 rfl Tryz.underlying37 rfl Tryz.sizeOf9) rfl ?_
               refine y (ev_load rfl Tryz.isAgg9 (by repeat first | exact .z | apply In.s) rfl) rfl ?_
               refine ya (ac_toBytesY rfl Tryz.underlying9 Tryz.underlying47 Tryz.underlying5) rfl ?_
               rintro v L' ⟨b176, c176, sp176, fr176, rfl, hc176, rfl⟩
               refine ycall (secWrite (bs := yy.s) ?ok513 ?rd513) rfl Tryz.call19 (by repeat first | exact .nil | exact .z | apply Pk.s | apply Tk.cons) rfl ?_
               case ok513 => first | exact hS.r.ok | exact hS.r.rok
               case rd513 => exact rdB_in (by repeat first | exact .z | apply In.s) rfl (by simp)
               rintro v L' ⟨rfl, rfl⟩
               refine ynil' (kthn (hK76 _ _ ?_))
               clear hK76
               refine creg ?_
               refine y (ev_move rfl) rfl ?_
               refine y (ev_fieldAddr 1 rfl Tryz.underlying37 rfl Tryz.sizeOf3) rfl ?_
               refine y (ev_load rfl Tryz.isAgg3 (by repeat first | exact .z | apply In.s) rfl) rfl ?_
               refine y (ev_fieldAddr 2 rfl Tryz.underlying37 rfl Tryz.sizeOf9) rfl ?_
               refine y (ev_load rfl Tryz.isAgg9 (by repeat first | exact .z | apply In.s) rfl) rfl ?_
               refine ya (ac_toBytesY rfl Tryz.underlying9 Tryz.underlying47 Tryz.underlying5) rfl ?_
               rintro v L' ⟨b183, c183, sp183, fr183, rfl, hc183, rfl⟩
               refine ycall (rdWrite (bs := yy.s) ?ok520 ?rd520) rfl Tryz.call20 (by repeat first | exact .nil | exact .z | apply Pk.s | apply Tk.cons) rfl ?_
               case ok520 => first | exact hS.r.ok | exact hS.r.rok
               case rd520 => exact rdB_in (by repeat first | exact .z | apply In.s) rfl (by simp)
               rintro v L' ⟨rfl, rfl⟩
               obtain ⟨e1, e2⟩ := hS.r.write yy.n yy.s
               have hSn := hS.dev e2 (show (D.write yy.n yy.s).2.l.length = n.toNat by rw [write_l]; exact hS.len)
               refine ynil' (kbn (kthn ?_))
               exact ksub (by repeat first | exact sub_nil | refine sub_cons rfl ?_ | refine sub_cons' rfl (by simp) ?_) (by repeat first | exact .refl | exact .nil | exact .z | apply Pk.s | refine Ge.e ?_ | apply Ge.pick | apply Ge.drop) (hJr36 _ hSn)
              ·(try simp only [sH] at h506)
               have hSn := hS
               refine cskip' (kbn (kthn ?_))
               exact ksub (by repeat first | exact sub_nil | refine sub_cons rfl ?_ | refine sub_cons' rfl (by simp) ?_) (by repeat first | exact .refl | exact .nil | exact .z | apply Pk.s | refine Ge.e ?_ | apply Ge.pick | apply Ge.drop) (hJr36 _ hSn)
           ·(try simp only [sH] at h414)
            refine yg0 rfl rfl rfl rfl ?_
            refine yg0 rfl rfl rfl rfl ?_
            refine y (ev_pick0 rfl rfl) rfl ?_
            refine y (ev_assign rfl) rfl ?_
            refine ynil' (kthn (hK64 _ _ ?_))
            clear hK64
            refine ccond0 rfl ?_
            refine cseq ?_; intro K77 hK77
            refine creg ?_
            refine y (ev_fieldAddr 0 rfl Tryz.underlying37 rfl Tryz.sizeOf3) rfl ?_
            refine y (ev_load rfl Tryz.isAgg3 (by repeat first | exact .z | apply In.s) rfl) rfl ?_
            refine y (ev_eql rfl rfl) rfl ?_
            refine y (ev_assign rfl) rfl ?_
            refine ynil' (kthn (hK77 _ _ ?_))
            clear hK77
            refine ccond rfl (fun h527 => ?_) (fun h527 => ?_)
            ·(try simp only [sH] at h527)
             refine cseq ?_; intro K78 hK78
             refine creg ?_
             refine y (ev_move rfl) rfl ?_
             refine y (ev_fieldAddr 1 rfl Tryz.underlying37 rfl Tryz.sizeOf3) rfl ?_
             refine y (ev_load rfl Tryz.isAgg3 (by repeat first | exact .z | apply In.s) rfl) rfl ?_
             refine ycall (secFuse) rfl Tryz.call14 (by repeat first | exact .nil | exact .z | apply Pk.s | apply Tk.cons) rfl ?_
             rintro v L' ⟨rfl, rfl⟩
             refine ynil' (kthn (hK78 _ _ ?_))
             clear hK78
             refine creg ?_
             refine y (ev_move rfl) rfl ?_
             refine y (ev_fieldAddr 1 rfl Tryz.underlying37 rfl Tryz.sizeOf3) rfl ?_
             refine y (ev_load rfl Tryz.isAgg3 (by repeat first | exact .z | apply In.s) rfl) rfl ?_
             refine ycall (rdFuse) rfl Tryz.call15 (by repeat first | exact .nil | exact .z | apply Pk.s | apply Tk.cons) rfl ?_
             rintro v L' ⟨rfl, rfl⟩
             have hSn := hS.dev (hS.r.setFuse hact.n.2) (show (D.setFuse yy.n).l.length = n.toNat from hS.len)
             refine ynil' (kbn (kthn ?_))
             exact ksub (by repeat first | exact sub_nil | refine sub_cons rfl ?_ | refine sub_cons' rfl (by simp) ?_) (by repeat first | exact .refl | exact .nil | exact .z | apply Pk.s | refine Ge.e ?_ | apply Ge.pick | apply Ge.drop) (hJr36 _ hSn)
            ·(try simp only [sH] at h527)
             refine cseq ?_; intro K79 hK79
             refine creg ?_
             refine y (ev_fieldAddr 0 rfl Tryz.underlying37 rfl Tryz.sizeOf3) rfl ?_
             refine y (ev_load rfl Tryz.isAgg3 (by repeat first | exact .z | apply In.s) rfl) rfl ?_
             refine y (ev_eql rfl rfl) rfl ?_
             refine y (ev_assign rfl) rfl ?_
             refine ynil' (kthn (hK79 _ _ ?_))
             clear hK79
             refine ccond rfl (fun h540 => ?_) (fun h540 => ?_)
             ·(try simp only [sH] at h540)
              refine cseq ?_; intro K80 hK80
              refine creg ?_
              refine y (ev_move rfl) rfl ?_
              refine y (ev_fieldAddr 3 rfl Tryz.underlying37 rfl Tryz.sizeOf35) rfl ?_
              refine y (ev_load rfl Tryz.isAgg35 (by repeat first | exact .z | apply In.s) rfl) rfl ?_
              refine ycall (secCrash (ks := yy.ks) ?ok544 ?ks544) rfl Tryz.call16 (by repeat first | exact .nil | exact .z | apply Pk.s | apply Tk.cons) rfl ?_
              case ok544 => first | exact hS.r.ok | exact hS.r.rok
              case ks544 => exact hact.keeps.mono (by repeat first | exact .refl | exact .nil | exact .z | apply Pk.s | refine Ge.e ?_ | apply Ge.pick | apply Ge.drop)
              rintro v L' ⟨rfl, rfl⟩
              refine ynil' (kthn (hK80 _ _ ?_))
              clear hK80
              refine cseq ?_; intro K81 hK81
              refine creg ?_
              refine y (ev_move rfl) rfl ?_
              refine y (ev_fieldAddr 3 rfl Tryz.underlying37 rfl Tryz.sizeOf35) rfl ?_
              refine y (ev_load rfl Tryz.isAgg35 (by repeat first | exact .z | apply In.s) rfl) rfl ?_
              refine ycall (nKeeps8 (ks := yy.ks) ?ks548 ?six548) rfl Tryz.call18 (by repeat first | exact .nil | exact .z | apply Pk.s | apply Tk.cons) rfl ?_
              case ks548 => exact hact.keeps.mono (by repeat first | exact .refl | exact .nil | exact .z | apply Pk.s | refine Ge.e ?_ | apply Ge.pick | apply Ge.drop)
              case six548 => omega
              rintro v L' ⟨s139, rfl, ok139, rfl⟩
              refine ycall (rdCrash (ks := yy.ks) ?ok549 ?ks549) rfl Tryz.call17 (by repeat first | exact .nil | exact .z | apply Pk.s | apply Tk.cons) rfl ?_
              case ok549 => first | exact hS.r.ok | exact hS.r.rok
              case ks549 => exact rdV_sv (by repeat first | exact .z | apply In.s) ok139
              rintro v L' ⟨rfl, rfl⟩
              refine ynil' (kthn (hK81 _ _ ?_))
              clear hK81
              refine cseq ?_; intro K82 hK82
              refine creg ?_
              have hR1 := hS.r.crash yy.ks
              have hl1 : (D.crash yy.ks).l.length = n.toNat := by rw [← hS.len]; simp [Dev.crash, crashL_length]
              generalize D.crash yy.ks = D1 at *
              generalize E.crash yy.ks = E1 at *
              refine y (ev_move rfl) rfl ?_
              refine y (ev_move rfl) rfl ?_
              refine y (ev_move rfl) rfl ?_
              refine y (ev_move rfl) rfl ?_
              by_cases ho1 : drlE D1 a b nb = 0
              ·skip
               first | (refine ycall (dOpenOk hR1.ok ho1) rfl Tryz.call7 (by repeat first | exact .nil | exact .z | apply Pk.s | apply Tk.cons) rfl ?_; rintro v L' ⟨l49, c49, rfl, rfl⟩) | (refine ycall (dOpenBad hR1.ok rfl ho1) rfl Tryz.call7 (by repeat first | exact .nil | exact .z | apply Pk.s | apply Tk.cons) rfl ?_; rintro v L' ⟨rfl, rfl⟩)
               refine y (ev_move rfl) rfl ?_
               refine y (ev_extract rfl rfl) rfl ?_
               refine y (ev_extract rfl rfl) rfl ?_
               refine y (ev_assign rfl) rfl ?_
               refine y (ev_assign rfl) rfl ?_
               refine ynil' (kthn (hK82 _ _ ?_))
               clear hK82
               refine cseq ?_; intro K83 hK83
               refine creg ?_
               refine y (ev_move rfl) rfl ?_
               refine y (ev_move rfl) rfl ?_
               refine y (ev_move rfl) rfl ?_
               refine y (ev_move rfl) rfl ?_
               first | (refine ycall (qOpenOk hR1 ho1) rfl Tryz.call8 (by repeat first | exact .nil | exact .z | apply Pk.s | apply Tk.cons) rfl ?_; rintro v L' ⟨l57, c57, rfl, rfl⟩; have hSn := DdM.ok.two hR1 hl1 ho1 l49 c49 l57 c57) | (refine ycall (qOpenBad hR1 ho1) rfl Tryz.call8 (by repeat first | exact .nil | exact .z | apply Pk.s | apply Tk.cons) rfl ?_; rintro v L' ⟨rfl, rfl⟩; have hSn := DdM.ok.none' hR1 hl1)
               refine y (ev_move rfl) rfl ?_
               refine y (ev_extract rfl rfl) rfl ?_
               refine y (ev_extract rfl rfl) rfl ?_
               refine y (ev_assign rfl) rfl ?_
               refine y (ev_assign rfl) rfl ?_
               refine ynil' (kthn (hK83 _ _ ?_))
               clear hK83
               refine cseq ?_; intro K84 hK84
               refine creg ?_
               refine y (ev_move rfl) rfl ?_
               refine y (ev_move rfl) rfl ?_
               refine y (ev_neq rfl rfl) rfl ?_
               try rw [show (!decide (drlE D1 a b nb = drlE D1 a b nb)) = false by simp]
               refine y (ev_move rfl) rfl ?_
               refine yg1 rfl rfl ?_
               refine y (ev_move rfl) rfl ?_
               refine yg1 rfl rfl ?_
               refine y (ev_eqlPnil rfl rfl Tryz.underlying28) rfl ?_
               refine yg1 rfl rfl ?_
               refine y (ev_move rfl) rfl ?_
               refine yg1 rfl rfl ?_
               refine y (ev_eqlPnil rfl rfl Tryz.underlying32) rfl ?_
               refine yg1 rfl rfl ?_
               refine y (ev_neqB rfl rfl Tryz.underlying4) rfl ?_
               refine y (ev_pick0 rfl rfl) rfl ?_
               refine ynil' (kthn (hK84 _ _ ?_))
               clear hK84
               refine ccond0 rfl ?_
               refine cskip' (kbn (kthn ?_))
               exact ksub (by repeat first | exact sub_nil | refine sub_cons rfl ?_ | refine sub_cons' rfl (by simp) ?_) (by repeat first | exact .refl | exact .nil | exact .z | apply Pk.s | refine Ge.e ?_ | apply Ge.pick | apply Ge.drop) (hJr36 _ hSn)
              ·skip
               first | (refine ycall (dOpenOk hR1.ok ho1) rfl Tryz.call7 (by repeat first | exact .nil | exact .z | apply Pk.s | apply Tk.cons) rfl ?_; rintro v L' ⟨l49, c49, rfl, rfl⟩) | (refine ycall (dOpenBad hR1.ok rfl ho1) rfl Tryz.call7 (by repeat first | exact .nil | exact .z | apply Pk.s | apply Tk.cons) rfl ?_; rintro v L' ⟨rfl, rfl⟩)
               refine y (ev_move rfl) rfl ?_
               refine y (ev_extract rfl rfl) rfl ?_
               refine y (ev_extract rfl rfl) rfl ?_
               refine y (ev_assign rfl) rfl ?_
               refine y (ev_assign rfl) rfl ?_
               refine ynil' (kthn (hK82 _ _ ?_))
               clear hK82
               refine cseq ?_; intro K85 hK85
               refine creg ?_
               refine y (ev_move rfl) rfl ?_
               refine y (ev_move rfl) rfl ?_
               refine y (ev_move rfl) rfl ?_
               refine y (ev_move rfl) rfl ?_
               first | (refine ycall (qOpenOk hR1 ho1) rfl Tryz.call8 (by repeat first | exact .nil | exact .z | apply Pk.s | apply Tk.cons) rfl ?_; rintro v L' ⟨l57, c57, rfl, rfl⟩; have hSn := DdM.ok.two hR1 hl1 ho1 l49 c49 l57 c57) | (refine ycall (qOpenBad hR1 ho1) rfl Tryz.call8 (by repeat first | exact .nil | exact .z | apply Pk.s | apply Tk.cons) rfl ?_; rintro v L' ⟨rfl, rfl⟩; have hSn := DdM.ok.none' hR1 hl1)
               refine y (ev_move rfl) rfl ?_
               refine y (ev_extract rfl rfl) rfl ?_
               refine y (ev_extract rfl rfl) rfl ?_
               refine y (ev_assign rfl) rfl ?_
               refine y (ev_assign rfl) rfl ?_
               refine ynil' (kthn (hK85 _ _ ?_))
               clear hK85
               refine cseq ?_; intro K86 hK86
               refine creg ?_
               refine y (ev_move rfl) rfl ?_
               refine y (ev_move rfl) rfl ?_
               refine y (ev_neq rfl rfl) rfl ?_
               try rw [show (!decide (drlE D1 a b nb = drlE D1 a b nb)) = false by simp]
               refine y (ev_move rfl) rfl ?_
               refine yg1 rfl rfl ?_
               refine y (ev_move rfl) rfl ?_
               refine yg1 rfl rfl ?_
               refine y (ev_eqlPnil rfl rfl Tryz.underlying28) rfl ?_
               refine yg1 rfl rfl ?_
               refine y (ev_move rfl) rfl ?_
               refine yg1 rfl rfl ?_
               refine y (ev_eqlPnil rfl rfl Tryz.underlying32) rfl ?_
               refine yg1 rfl rfl ?_
               refine y (ev_neqB rfl rfl Tryz.underlying4) rfl ?_
               refine y (ev_pick0 rfl rfl) rfl ?_
               refine ynil' (kthn (hK86 _ _ ?_))
               clear hK86
               refine ccond0 rfl ?_
               refine cskip' (kbn (kthn ?_))
               exact ksub (by repeat first | exact sub_nil | refine sub_cons rfl ?_ | refine sub_cons' rfl (by simp) ?_) (by repeat first | exact .refl | exact .nil | exact .z | apply Pk.s | refine Ge.e ?_ | apply Ge.pick | apply Ge.drop) (hJr36 _ hSn)
             ·(try simp only [sH] at h540)
              refine cseq ?_; intro K87 hK87
              refine creg ?_
              refine y (ev_fieldAddr 0 rfl Tryz.underlying37 rfl Tryz.sizeOf3) rfl ?_
              refine y (ev_load rfl Tryz.isAgg3 (by repeat first | exact .z | apply In.s) rfl) rfl ?_
              refine y (ev_eql rfl rfl) rfl ?_
              refine y (ev_assign rfl) rfl ?_
              refine ynil' (kthn (hK87 _ _ ?_))
              clear hK87
              refine ccond rfl (fun h610 => ?_) (fun h610 => ?_)
              ·(try simp only [sH] at h610)
               refine cseq ?_; intro K88 hK88
               refine creg ?_
               refine y (ev_move rfl) rfl ?_
               refine y (ev_fieldAddr 1 rfl Tryz.underlying37 rfl Tryz.sizeOf3) rfl ?_
               refine y (ev_load rfl Tryz.isAgg3 (by repeat first | exact .z | apply In.s) rfl) rfl ?_
               refine y (ev_fieldAddr 2 rfl Tryz.underlying37 rfl Tryz.sizeOf9) rfl ?_
               refine y (ev_load rfl Tryz.isAgg9 (by repeat first | exact .z | apply In.s) rfl) rfl ?_
               refine ya (ac_toBytesY rfl Tryz.underlying9 Tryz.underlying47 Tryz.underlying5) rfl ?_
               rintro v L' ⟨b176, c176, sp176, fr176, rfl, hc176, rfl⟩
               refine ycall (secWrite (bs := yy.s) ?ok617 ?rd617) rfl Tryz.call19 (by repeat first | exact .nil | exact .z | apply Pk.s | apply Tk.cons) rfl ?_
               case ok617 => first | exact hS.r.ok | exact hS.r.rok
               case rd617 => exact rdB_in (by repeat first | exact .z | apply In.s) rfl (by simp)
               rintro v L' ⟨rfl, rfl⟩
               refine ynil' (kthn (hK88 _ _ ?_))
               clear hK88
               refine creg ?_
               refine y (ev_move rfl) rfl ?_
               refine y (ev_fieldAddr 1 rfl Tryz.underlying37 rfl Tryz.sizeOf3) rfl ?_
               refine y (ev_load rfl Tryz.isAgg3 (by repeat first | exact .z | apply In.s) rfl) rfl ?_
               refine y (ev_fieldAddr 2 rfl Tryz.underlying37 rfl Tryz.sizeOf9) rfl ?_
               refine y (ev_load rfl Tryz.isAgg9 (by repeat first | exact .z | apply In.s) rfl) rfl ?_
               refine ya (ac_toBytesY rfl Tryz.underlying9 Tryz.underlying47 Tryz.underlying5) rfl ?_
               rintro v L' ⟨b183, c183, sp183, fr183, rfl, hc183, rfl⟩
               refine ycall (rdWrite (bs := yy.s) ?ok624 ?rd624) rfl Tryz.call20 (by repeat first | exact .nil | exact .z | apply Pk.s | apply Tk.cons) rfl ?_
               case ok624 => first | exact hS.r.ok | exact hS.r.rok
               case rd624 => exact rdB_in (by repeat first | exact .z | apply In.s) rfl (by simp)
               rintro v L' ⟨rfl, rfl⟩
               obtain ⟨e1, e2⟩ := hS.r.write yy.n yy.s
               have hSn := hS.dev e2 (show (D.write yy.n yy.s).2.l.length = n.toNat by rw [write_l]; exact hS.len)
               refine ynil' (kbn (kthn ?_))
               exact ksub (by repeat first | exact sub_nil | refine sub_cons rfl ?_ | refine sub_cons' rfl (by simp) ?_) (by repeat first | exact .refl | exact .nil | exact .z | apply Pk.s | refine Ge.e ?_ | apply Ge.pick | apply Ge.drop) (hJr36 _ hSn)
              ·(try simp only [sH] at h610)
               have hSn := hS
               refine cskip' (kbn (kthn ?_))
               exact ksub (by repeat first | exact sub_nil | refine sub_cons rfl ?_ | refine sub_cons' rfl (by simp) ?_) (by repeat first | exact .refl | exact .nil | exact .z | apply Pk.s | refine Ge.e ?_ | apply Ge.pick | apply Ge.drop) (hJr36 _ hSn)
         ·skip
          refine y (ev_fieldAddr 0 rfl Tryz.underlying37 rfl Tryz.sizeOf3) rfl ?_
          refine y (ev_load rfl Tryz.isAgg3 (by repeat first | exact .z | apply In.s) rfl) rfl ?_
          refine y (ev_eql rfl rfl) rfl ?_
          refine y (ev_move rfl) rfl ?_
          refine ysplit 90 rfl (fun h629 => ?_) (fun h629 => ?_)
          ·(try simp only [sH] at h629)
           refine yg1 rfl rfl ?_
           refine y (ev_move rfl) rfl ?_
           refine yg1 rfl rfl ?_
           refine y (ev_neqPnil rfl rfl Tryz.underlying28) rfl ?_
           refine y (ev_pick1 rfl rfl) rfl ?_
           refine y (ev_assign rfl) rfl ?_
           refine ynil' (kthn (hK38 _ _ ?_))
           clear hK38
           refine ccond1 rfl ?_
           refine cseq ?_; intro K89 hK89
           refine cdraw 7 [(0, true), (1, true), (2, true), (4, true), (5, true), (6, true), (3, false)] ([sc b20 yy.cells 37] ++ R) Tryz.mixed (by kernel_rfl) (by repeat first | exact .refl | exact .nil | exact .z | apply Pk.s | refine Ge.e ?_ | apply Ge.pick | apply Ge.drop) ?_
           skip
           ·skip
            refine hr rfl (ev_move rfl) rfl ?_
            refine hr rfl (ev_fieldAddr 1 rfl Tryz.underlying37 rfl Tryz.sizeOf3) rfl ?_
            refine hr rfl (ev_load rfl Tryz.isAgg3 (by repeat first | exact .z | apply In.s) rfl) rfl ?_
            refine hr rfl (ev_move rfl) rfl ?_
            refine hr rfl (ev_fieldAddr 1 rfl Tryz.underlying37 rfl Tryz.sizeOf3) rfl ?_
            refine hr rfl (ev_load rfl Tryz.isAgg3 (by repeat first | exact .z | apply In.s) rfl) rfl ?_
            refine hcall rfl (dMark ?dl640 ?di640 ?dj640) rfl Tryz.call10 (by repeat first | exact .nil | exact .z | apply Pk.s | apply Tk.cons) rfl ?_
            case dl640 => first | exact hS.l | exact rl_ok hS.l hS.r
            case di640 => exact hact.n.1
            case dj640 => exact hact.n.2
            rintro v L' ⟨rfl, rfl⟩; refine ⟨(by repeat first | exact .refl | exact .nil | exact .z | apply Pk.s | refine Ge.e ?_ | apply Ge.pick | apply Ge.drop), ?_⟩
            refine hnil ?_
            refine ycall (qMark ?dl641 ?dj641) rfl Tryz.call11 (by repeat first | exact .nil | exact .z | apply Pk.s | apply Tk.cons) rfl ?_
            case dl641 => first | exact hS.l | exact rl_ok hS.l hS.r
            case dj641 => exact hact.n.2
            rintro v L' ⟨rfl, rfl⟩
            obtain ⟨e1, e2, e3⟩ := markR_rel (L := L) hS.r yy.n
            rw [← e1, ← e2]
            have hSn := DdM.ok.of (z := ((l1, c1), (l2, c2), (L.mark D yy.n).2.1)) e3 (drl_mark_l.trans hS.len) (drl_mark_ok hS.l yy.n)
            refine y (ev_neq rfl rfl) rfl ?_
            rw [show (!decide ((L.mark D yy.n).1 = (L.mark D yy.n).1)) = false by simp]
            refine hnoP' (kthn (hK89 _ _ ?_))
            clear hK89
            refine ccond0 rfl ?_
            refine cskip' (kbn (kthn ?_))
            exact ksub (by repeat first | exact sub_nil | refine sub_cons rfl ?_ | refine sub_cons' rfl (by simp) ?_) (by repeat first | exact .refl | exact .nil | exact .z | apply Pk.s | refine Ge.e ?_ | apply Ge.pick | apply Ge.drop) (hJr36 _ hSn)
          ·(try simp only [sH] at h629)
           refine yg0 rfl rfl rfl rfl ?_
           refine yg0 rfl rfl rfl rfl ?_
           refine y (ev_pick0 rfl rfl) rfl ?_
           refine y (ev_assign rfl) rfl ?_
           refine ynil' (kthn (hK38 _ _ ?_))
           clear hK38
           refine ccond0 rfl ?_
           refine cseq ?_; intro K90 hK90
           refine creg ?_
           refine y (ev_fieldAddr 0 rfl Tryz.underlying37 rfl Tryz.sizeOf3) rfl ?_
           refine y (ev_load rfl Tryz.isAgg3 (by repeat first | exact .z | apply In.s) rfl) rfl ?_
           refine y (ev_eql rfl rfl) rfl ?_
           refine y (ev_move rfl) rfl ?_
           refine ysplit 107 rfl (fun h649 => ?_) (fun h649 => ?_)
           ·(try simp only [sH] at h649)
            refine yg1 rfl rfl ?_
            refine y (ev_move rfl) rfl ?_
            refine yg1 rfl rfl ?_
            refine y (ev_neqPnil rfl rfl Tryz.underlying28) rfl ?_
            refine y (ev_pick1 rfl rfl) rfl ?_
            refine y (ev_assign rfl) rfl ?_
            refine ynil' (kthn (hK90 _ _ ?_))
            clear hK90
            refine ccond1 rfl ?_
            refine cseq ?_; intro K91 hK91
            refine creg ?_
            skip
            ·skip
             refine y (ev_move rfl) rfl ?_
             refine ycall (dClear ?dl655) rfl Tryz.call12 (by repeat first | exact .nil | exact .z | apply Pk.s | apply Tk.cons) rfl ?_
             case dl655 => first | exact hS.l | exact rl_ok hS.l hS.r
             rintro v L' ⟨rfl, rfl⟩
             refine y (ev_move rfl) rfl ?_
             refine ycall (qClear ?dl657) rfl Tryz.call13 (by repeat first | exact .nil | exact .z | apply Pk.s | apply Tk.cons) rfl ?_
             case dl657 => first | exact hS.l | exact rl_ok hS.l hS.r
             rintro v L' ⟨rfl, rfl⟩
             obtain ⟨e1, e2, e3⟩ := clearR_rel (L := L) hS.r
             rw [← e1, ← e2]
             have hSn := DdM.ok.of (z := ((l1, c1), (l2, c2), (L.clear D).2.1)) e3 (drl_clear_l.trans hS.len) (drl_clear_ok hS.l)
             refine y (ev_neq rfl rfl) rfl ?_
             rw [show (!decide ((L.clear D).1 = (L.clear D).1)) = false by simp]
             refine ynil' (kthn (hK91 _ _ ?_))
             clear hK91
             refine ccond0 rfl ?_
             refine cskip' (kbn (kthn ?_))
             exact ksub (by repeat first | exact sub_nil | refine sub_cons rfl ?_ | refine sub_cons' rfl (by simp) ?_) (by repeat first | exact .refl | exact .nil | exact .z | apply Pk.s | refine Ge.e ?_ | apply Ge.pick | apply Ge.drop) (hJr36 _ hSn)
           ·(try simp only [sH] at h649)
            refine yg0 rfl rfl rfl rfl ?_
            refine yg0 rfl rfl rfl rfl ?_
            refine y (ev_pick0 rfl rfl) rfl ?_
            refine y (ev_assign rfl) rfl ?_
            refine ynil' (kthn (hK90 _ _ ?_))
            clear hK90
            refine ccond0 rfl ?_
            refine cseq ?_; intro K92 hK92
            refine creg ?_
            refine y (ev_fieldAddr 0 rfl Tryz.underlying37 rfl Tryz.sizeOf3) rfl ?_
            refine y (ev_load rfl Tryz.isAgg3 (by repeat first | exact .z | apply In.s) rfl) rfl ?_
            refine y (ev_eql rfl rfl) rfl ?_
            refine y (ev_assign rfl) rfl ?_
            refine ynil' (kthn (hK92 _ _ ?_))
            clear hK92
            refine ccond rfl (fun h665 => ?_) (fun h665 => ?_)
            ·(try simp only [sH] at h665)
             refine cseq ?_; intro K93 hK93
             refine creg ?_
             refine y (ev_move rfl) rfl ?_
             refine y (ev_fieldAddr 1 rfl Tryz.underlying37 rfl Tryz.sizeOf3) rfl ?_
             refine y (ev_load rfl Tryz.isAgg3 (by repeat first | exact .z | apply In.s) rfl) rfl ?_
             refine ycall (secFuse) rfl Tryz.call14 (by repeat first | exact .nil | exact .z | apply Pk.s | apply Tk.cons) rfl ?_
             rintro v L' ⟨rfl, rfl⟩
             refine ynil' (kthn (hK93 _ _ ?_))
             clear hK93
             refine creg ?_
             refine y (ev_move rfl) rfl ?_
             refine y (ev_fieldAddr 1 rfl Tryz.underlying37 rfl Tryz.sizeOf3) rfl ?_
             refine y (ev_load rfl Tryz.isAgg3 (by repeat first | exact .z | apply In.s) rfl) rfl ?_
             refine ycall (rdFuse) rfl Tryz.call15 (by repeat first | exact .nil | exact .z | apply Pk.s | apply Tk.cons) rfl ?_
             rintro v L' ⟨rfl, rfl⟩
             have hSn := hS.dev (hS.r.setFuse hact.n.2) (show (D.setFuse yy.n).l.length = n.toNat from hS.len)
             refine ynil' (kbn (kthn ?_))
             exact ksub (by repeat first | exact sub_nil | refine sub_cons rfl ?_ | refine sub_cons' rfl (by simp) ?_) (by repeat first | exact .refl | exact .nil | exact .z | apply Pk.s | refine Ge.e ?_ | apply Ge.pick | apply Ge.drop) (hJr36 _ hSn)
            ·(try simp only [sH] at h665)
             refine cseq ?_; intro K94 hK94
             refine creg ?_
             refine y (ev_fieldAddr 0 rfl Tryz.underlying37 rfl Tryz.sizeOf3) rfl ?_
             refine y (ev_load rfl Tryz.isAgg3 (by repeat first | exact .z | apply In.s) rfl) rfl ?_
             refine y (ev_eql rfl rfl) rfl ?_
             refine y (ev_assign rfl) rfl ?_
             refine ynil' (kthn (hK94 _ _ ?_))
             clear hK94
             refine ccond rfl (fun h678 => ?_) (fun h678 => ?_)
             ·(try simp only [sH] at h678)
              refine cseq ?_; intro K95 hK95
              refine creg ?_
              refine y (ev_move rfl) rfl ?_
              refine y (ev_fieldAddr 3 rfl Tryz.underlying37 rfl Tryz.sizeOf35) rfl ?_
              refine y (ev_load rfl Tryz.isAgg35 (by repeat first | exact .z | apply In.s) rfl) rfl ?_
              refine ycall (secCrash (ks := yy.ks) ?ok682 ?ks682) rfl Tryz.call16 (by repeat first | exact .nil | exact .z | apply Pk.s | apply Tk.cons) rfl ?_
              case ok682 => first | exact hS.r.ok | exact hS.r.rok
              case ks682 => exact hact.keeps.mono (by repeat first | exact .refl | exact .nil | exact .z | apply Pk.s | refine Ge.e ?_ | apply Ge.pick | apply Ge.drop)
              rintro v L' ⟨rfl, rfl⟩
              refine ynil' (kthn (hK95 _ _ ?_))
              clear hK95
              refine cseq ?_; intro K96 hK96
              refine creg ?_
              refine y (ev_move rfl) rfl ?_
              refine y (ev_fieldAddr 3 rfl Tryz.underlying37 rfl Tryz.sizeOf35) rfl ?_
              refine y (ev_load rfl Tryz.isAgg35 (by repeat first | exact .z | apply In.s) rfl) rfl ?_
              refine ycall (nKeeps8 (ks := yy.ks) ?ks686 ?six686) rfl Tryz.call18 (by repeat first | exact .nil | exact .z | apply Pk.s | apply Tk.cons) rfl ?_
              case ks686 => exact hact.keeps.mono (by repeat first | exact .refl | exact .nil | exact .z | apply Pk.s | refine Ge.e ?_ | apply Ge.pick | apply Ge.drop)
              case six686 => omega
              rintro v L' ⟨s139, rfl, ok139, rfl⟩
              refine ycall (rdCrash (ks := yy.ks) ?ok687 ?ks687) rfl Tryz.call17 (by repeat first | exact .nil | exact .z | apply Pk.s | apply Tk.cons) rfl ?_
              case ok687 => first | exact hS.r.ok | exact hS.r.rok
              case ks687 => exact rdV_sv (by repeat first | exact .z | apply In.s) ok139
              rintro v L' ⟨rfl, rfl⟩
              refine ynil' (kthn (hK96 _ _ ?_))
              clear hK96
              refine cseq ?_; intro K97 hK97
              refine creg ?_
              have hR1 := hS.r.crash yy.ks
              have hl1 : (D.crash yy.ks).l.length = n.toNat := by rw [← hS.len]; simp [Dev.crash, crashL_length]
              generalize D.crash yy.ks = D1 at *
              generalize E.crash yy.ks = E1 at *
              refine y (ev_move rfl) rfl ?_
              refine y (ev_move rfl) rfl ?_
              refine y (ev_move rfl) rfl ?_
              refine y (ev_move rfl) rfl ?_
              by_cases ho1 : drlE D1 a b nb = 0
              ·skip
               first | (refine ycall (dOpenOk hR1.ok ho1) rfl Tryz.call7 (by repeat first | exact .nil | exact .z | apply Pk.s | apply Tk.cons) rfl ?_; rintro v L' ⟨l49, c49, rfl, rfl⟩) | (refine ycall (dOpenBad hR1.ok rfl ho1) rfl Tryz.call7 (by repeat first | exact .nil | exact .z | apply Pk.s | apply Tk.cons) rfl ?_; rintro v L' ⟨rfl, rfl⟩)
               refine y (ev_move rfl) rfl ?_
               refine y (ev_extract rfl rfl) rfl ?_
               refine y (ev_extract rfl rfl) rfl ?_
               refine y (ev_assign rfl) rfl ?_
               refine y (ev_assign rfl) rfl ?_
               refine ynil' (kthn (hK97 _ _ ?_))
               clear hK97
               refine cseq ?_; intro K98 hK98
               refine creg ?_
               refine y (ev_move rfl) rfl ?_
               refine y (ev_move rfl) rfl ?_
               refine y (ev_move rfl) rfl ?_
               refine y (ev_move rfl) rfl ?_
               first | (refine ycall (qOpenOk hR1 ho1) rfl Tryz.call8 (by repeat first | exact .nil | exact .z | apply Pk.s | apply Tk.cons) rfl ?_; rintro v L' ⟨l57, c57, rfl, rfl⟩; have hSn := DdM.ok.two hR1 hl1 ho1 l49 c49 l57 c57) | (refine ycall (qOpenBad hR1 ho1) rfl Tryz.call8 (by repeat first | exact .nil | exact .z | apply Pk.s | apply Tk.cons) rfl ?_; rintro v L' ⟨rfl, rfl⟩; have hSn := DdM.ok.none' hR1 hl1)
               refine y (ev_move rfl) rfl ?_
               refine y (ev_extract rfl rfl) rfl ?_
               refine y (ev_extract rfl rfl) rfl ?_
               refine y (ev_assign rfl) rfl ?_
               refine y (ev_assign rfl) rfl ?_
               refine ynil' (kthn (hK98 _ _ ?_))
               clear hK98
               refine cseq ?_; intro K99 hK99
               refine creg ?_
               refine y (ev_move rfl) rfl ?_
               refine y (ev_move rfl) rfl ?_
               refine y (ev_neq rfl rfl) rfl ?_
               try rw [show (!decide (drlE D1 a b nb = drlE D1 a b nb)) = false by simp]
               refine y (ev_move rfl) rfl ?_
               refine yg1 rfl rfl ?_
               refine y (ev_move rfl) rfl ?_
               refine yg1 rfl rfl ?_
               refine y (ev_eqlPnil rfl rfl Tryz.underlying28) rfl ?_
               refine yg1 rfl rfl ?_
               refine y (ev_move rfl) rfl ?_
               refine yg1 rfl rfl ?_
               refine y (ev_eqlPnil rfl rfl Tryz.underlying32) rfl ?_
               refine yg1 rfl rfl ?_
               refine y (ev_neqB rfl rfl Tryz.underlying4) rfl ?_
               refine y (ev_pick0 rfl rfl) rfl ?_
               refine ynil' (kthn (hK99 _ _ ?_))
               clear hK99
               refine ccond0 rfl ?_
               refine cskip' (kbn (kthn ?_))
               exact ksub (by repeat first | exact sub_nil | refine sub_cons rfl ?_ | refine sub_cons' rfl (by simp) ?_) (by repeat first | exact .refl | exact .nil | exact .z | apply Pk.s | refine Ge.e ?_ | apply Ge.pick | apply Ge.drop) (hJr36 _ hSn)
              ·skip
               first | (refine ycall (dOpenOk hR1.ok ho1) rfl Tryz.call7 (by repeat first | exact .nil | exact .z | apply Pk.s | apply Tk.cons) rfl ?_; rintro v L' ⟨l49, c49, rfl, rfl⟩) | (refine ycall (dOpenBad hR1.ok rfl ho1) rfl Tryz.call7 (by repeat first | exact .nil | exact .z | apply Pk.s | apply Tk.cons) rfl ?_; rintro v L' ⟨rfl, rfl⟩)
               refine y (ev_move rfl) rfl ?_
               refine y (ev_extract rfl rfl) rfl ?_
               refine y (ev_extract rfl rfl) rfl ?_
               refine y (ev_assign rfl) rfl ?_
               refine y (ev_assign rfl) rfl ?_
               refine ynil' (kthn (hK97 _ _ ?_))
               clear hK97
               refine cseq ?_; intro K100 hK100
               refine creg ?_
               refine y (ev_move rfl) rfl ?_
               refine y (ev_move rfl) rfl ?_
               refine y (ev_move rfl) rfl ?_
               refine y (ev_move rfl) rfl ?_
               first | (refine ycall (qOpenOk hR1 ho1) rfl Tryz.call8 (by repeat first | exact .nil | exact .z | apply Pk.s | apply Tk.cons) rfl ?_; rintro v L' ⟨l57, c57, rfl, rfl⟩; have hSn := DdM.ok.two hR1 hl1 ho1 l49 c49 l57 c57) | (refine ycall (qOpenBad hR1 ho1) rfl Tryz.call8 (by repeat first | exact .nil | exact .z | apply Pk.s | apply Tk.cons) rfl ?_; rintro v L' ⟨rfl, rfl⟩; have hSn := DdM.ok.none' hR1 hl1)
               refine y (ev_move rfl) rfl ?_
               refine y (ev_extract rfl rfl) rfl ?_
               refine y (ev_extract rfl rfl) rfl ?_
               refine y (ev_assign rfl) rfl ?_
               refine y (ev_assign rfl) rfl ?_
               refine ynil' (kthn (hK100 _ _ ?_))
               clear hK100
               refine cseq ?_; intro K101 hK101
               refine creg ?_
               refine y (ev_move rfl) rfl ?_
               refine y (ev_move rfl) rfl ?_
               refine y (ev_neq rfl rfl) rfl ?_
               try rw [show (!decide (drlE D1 a b nb = drlE D1 a b nb)) = false by simp]
               refine y (ev_move rfl) rfl ?_
               refine yg1 rfl rfl ?_
               refine y (ev_move rfl) rfl ?_
               refine yg1 rfl rfl ?_
               refine y (ev_eqlPnil rfl rfl Tryz.underlying28) rfl ?_
               refine yg1 rfl rfl ?_
               refine y (ev_move rfl) rfl ?_
               refine yg1 rfl rfl ?_
               refine y (ev_eqlPnil rfl rfl Tryz.underlying32) rfl ?_
               refine yg1 rfl rfl ?_
               refine y (ev_neqB rfl rfl Tryz.underlying4) rfl ?_
               refine y (ev_pick0 rfl rfl) rfl ?_
               refine ynil' (kthn (hK101 _ _ ?_))
               clear hK101
               refine ccond0 rfl ?_
               refine cskip' (kbn (kthn ?_))
               exact ksub (by repeat first | exact sub_nil | refine sub_cons rfl ?_ | refine sub_cons' rfl (by simp) ?_) (by repeat first | exact .refl | exact .nil | exact .z | apply Pk.s | refine Ge.e ?_ | apply Ge.pick | apply Ge.drop) (hJr36 _ hSn)
             ·(try simp only [sH] at h678)
              refine cseq ?_; intro K102 hK102
              refine creg ?_
              refine y (ev_fieldAddr 0 rfl Tryz.underlying37 rfl Tryz.sizeOf3) rfl ?_
              refine y (ev_load rfl Tryz.isAgg3 (by repeat first | exact .z | apply In.s) rfl) rfl ?_
              refine y (ev_eql rfl rfl) rfl ?_
              refine y (ev_assign rfl) rfl ?_
              refine ynil' (kthn (hK102 _ _ ?_))
              clear hK102
              refine ccond rfl (fun h748 => ?_) (fun h748 => ?_)
              ·(try simp only [sH] at h748)
               refine cseq ?_; intro K103 hK103
               refine creg ?_
               refine y (ev_move rfl) rfl ?_
               refine y (ev_fieldAddr 1 rfl Tryz.underlying37 rfl Tryz.sizeOf3) rfl ?_
               refine y (ev_load rfl Tryz.isAgg3 (by repeat first | exact .z | apply In.s) rfl) rfl ?_
               refine y (ev_fieldAddr 2 rfl Tryz.underlying37 rfl Tryz.sizeOf9) rfl ?_
               refine y (ev_load rfl Tryz.isAgg9 (by repeat first | exact .z | apply In.s) rfl) rfl ?_
               refine ya (ac_toBytesY rfl Tryz.underlying9 Tryz.underlying47 Tryz.underlying5) rfl ?_
               rintro v L' ⟨b176, c176, sp176, fr176, rfl, hc176, rfl⟩
               refine ycall (secWrite (bs := yy.s) ?ok755 ?rd755) rfl Tryz.call19 (by repeat first | exact .nil | exact .z | apply Pk.s | apply Tk.cons) rfl ?_
               case ok755 => first | exact hS.r.ok | exact hS.r.rok
               case rd755 => exact rdB_in (by repeat first | exact .z | apply In.s) rfl (by simp)
               rintro v L' ⟨rfl, rfl⟩
               refine ynil' (kthn (hK103 _ _ ?_))
               clear hK103
               refine creg ?_
               refine y (ev_move rfl) rfl ?_
               refine y (ev_fieldAddr 1 rfl Tryz.underlying37 rfl Tryz.sizeOf3) rfl ?_
               refine y (ev_load rfl Tryz.isAgg3 (by repeat first | exact .z | apply In.s) rfl) rfl ?_
               refine y (ev_fieldAddr 2 rfl Tryz.underlying37 rfl Tryz.sizeOf9) rfl ?_
               refine y (ev_load rfl Tryz.isAgg9 (by repeat first | exact .z | apply In.s) rfl) rfl ?_
               refine ya (ac_toBytesY rfl Tryz.underlying9 Tryz.underlying47 Tryz.underlying5) rfl ?_
               rintro v L' ⟨b183, c183, sp183, fr183, rfl, hc183, rfl⟩
               refine ycall (rdWrite (bs := yy.s) ?ok762 ?rd762) rfl Tryz.call20 (by repeat first | exact .nil | exact .z | apply Pk.s | apply Tk.cons) rfl ?_
               case ok762 => first | exact hS.r.ok | exact hS.r.rok
               case rd762 => exact rdB_in (by repeat first | exact .z | apply In.s) rfl (by simp)
               rintro v L' ⟨rfl, rfl⟩
               obtain ⟨e1, e2⟩ := hS.r.write yy.n yy.s
               have hSn := hS.dev e2 (show (D.write yy.n yy.s).2.l.length = n.toNat by rw [write_l]; exact hS.len)
               refine ynil' (kbn (kthn ?_))
               exact ksub (by repeat first | exact sub_nil | refine sub_cons rfl ?_ | refine sub_cons' rfl (by simp) ?_) (by repeat first | exact .refl | exact .nil | exact .z | apply Pk.s | refine Ge.e ?_ | apply Ge.pick | apply Ge.drop) (hJr36 _ hSn)
              ·(try simp only [sH] at h748)
               have hSn := hS
               refine cskip' (kbn (kthn ?_))
               exact ksub (by repeat first | exact sub_nil | refine sub_cons rfl ?_ | refine sub_cons' rfl (by simp) ?_) (by repeat first | exact .refl | exact .nil | exact .z | apply Pk.s | refine Ge.e ?_ | apply Ge.pick | apply Ge.drop) (hJr36 _ hSn)
       ·(try simp only [sH] at h47)
        refine cexit (kthx (kthx (kbx (kthn ?_))))
        exact ksub (by repeat first | exact sub_nil | refine sub_cons rfl ?_ | refine sub_cons' rfl (by simp) ?_) (by repeat first | exact .refl | exact .nil | exact .z | apply Pk.s | refine Ge.e ?_ | apply Ge.pick | apply Ge.drop) (hJ1 ⟨z, D, E, t⟩ ⟨hI1o, by first | trivial | omega⟩)
      ·(try simp only [sH] at h43)
       refine yg0 rfl rfl rfl rfl ?_
       refine yg0 rfl rfl rfl rfl ?_
       refine y (ev_pick0 rfl rfl) rfl ?_
       refine ynil' (kthn (hK15 _ _ ?_))
       clear hK15
       refine ccond0 rfl ?_
       refine cexit (kthx (kthx (kbx (kthn ?_))))
       exact ksub (by repeat first | exact sub_nil | refine sub_cons rfl ?_ | refine sub_cons' rfl (by simp) ?_) (by repeat first | exact .refl | exact .nil | exact .z | apply Pk.s | refine Ge.e ?_ | apply Ge.pick | apply Ge.drop) (hJ1 ⟨z, D, E, t⟩ ⟨hI1o, by first | trivial | omega⟩)
     clear hK10
     refine cseq ?_; intro K104 hK104
     refine creg ?_
     refine y (ev_move rfl) rfl ?_
     refine y (ev_move rfl) rfl ?_
     refine y (ev_neq rfl rfl) rfl ?_
     try rw [show (!decide (drlE D0 a b nb = drlE D0 a b nb)) = false by simp]
     refine y (ev_move rfl) rfl ?_
     refine yg1 rfl rfl ?_
     refine y (ev_move rfl) rfl ?_
     refine yg1 rfl rfl ?_
     refine y (ev_eqlPnil rfl rfl Tryz.underlying28) rfl ?_
     refine yg1 rfl rfl ?_
     refine y (ev_move rfl) rfl ?_
     refine yg1 rfl rfl ?_
     refine y (ev_eqlPnil rfl rfl Tryz.underlying32) rfl ?_
     refine yg1 rfl rfl ?_
     refine y (ev_neqB rfl rfl Tryz.underlying4) rfl ?_
     refine y (ev_pick0 rfl rfl) rfl ?_
     refine ynil' (kthn (hK104 _ _ ?_))
     clear hK104
     refine ccond0 rfl ?_
     refine cskip' (kthn ?_)
     exact ksub (by repeat first | exact sub_nil | refine sub_cons rfl ?_ | refine sub_cons' rfl (by simp) ?_) (by repeat first | exact .refl | exact .nil | exact .z | apply Pk.s | refine Ge.e ?_ | apply Ge.pick | apply Ge.drop) (hJr11 t0 hS0)
    ·skip
     first | (refine ycall (dOpenOk hR0.ok ho) rfl Tryz.call7 (by repeat first | exact .nil | exact .z | apply Pk.s | apply Tk.cons) rfl ?_; rintro v L' ⟨l49, c49, rfl, rfl⟩) | (refine ycall (dOpenBad hR0.ok rfl ho) rfl Tryz.call7 (by repeat first | exact .nil | exact .z | apply Pk.s | apply Tk.cons) rfl ?_; rintro v L' ⟨rfl, rfl⟩)
     refine y (ev_move rfl) rfl ?_
     refine y (ev_extract rfl rfl) rfl ?_
     refine y (ev_extract rfl rfl) rfl ?_
     refine y (ev_assign rfl) rfl ?_
     refine y (ev_assign rfl) rfl ?_
     refine ynil' (kthn (hK8 _ _ ?_))
     clear hK8
     refine cseq ?_; intro K105 hK105
     refine creg ?_
     refine y (ev_move rfl) rfl ?_
     refine y (ev_move rfl) rfl ?_
     refine y (ev_move rfl) rfl ?_
     refine y (ev_move rfl) rfl ?_
     first | (refine ycall (qOpenOk hR0 ho) rfl Tryz.call8 (by repeat first | exact .nil | exact .z | apply Pk.s | apply Tk.cons) rfl ?_; rintro v L' ⟨l57, c57, rfl, rfl⟩; have hS0 := DdM.ok.two hR0 hl0 ho l49 c49 l57 c57; let t0 : Two := some ((l49, c49), (l57, c57), drlO D0 a b nb.toNat)) | (refine ycall (qOpenBad hR0 ho) rfl Tryz.call8 (by repeat first | exact .nil | exact .z | apply Pk.s | apply Tk.cons) rfl ?_; rintro v L' ⟨rfl, rfl⟩; have hS0 := DdM.ok.none' hR0 hl0; let t0 : Two := none)
     refine y (ev_move rfl) rfl ?_
     refine y (ev_extract rfl rfl) rfl ?_
     refine y (ev_extract rfl rfl) rfl ?_
     refine y (ev_assign rfl) rfl ?_
     refine y (ev_assign rfl) rfl ?_
     refine ynil' (kthn (hK105 _ _ ?_))
     clear hK105
     refine cseq ?_; intro K106 hK106
     have hJr11 : ∀ x : Two, (DdM.ok ⟨D0, E0, x⟩ n.toNat) → Sk 246 K106 ([(17, twoV2 x), (15, twoV1 x), (14, ptr p31), (13, dp q29), (0, i64 n), (1, i64 a), (2, i64 b), (3, i64 nb), (4, lv), (5, i64 k)]) ([twoA x, twoB q29 x, twoC x, twoD p31 x, dev q29 D0, rdev p31 la31 E0] ++ R) := by
      rintro t0 hIr11
      refine hK106 _ _ ?_
      have hS0 := hIr11
      refine cseq ?_; intro K107 hK107
      refine cseq ?_; intro K108 hK108
      refine creg ?_
      refine y (ev_assign rfl) rfl ?_
      refine ynil' (kthn (hK108 _ _ ?_))
      clear hK108
      have hJ1 : ∀ x : Nat × DdM, ((x.2.ok n.toNat ∧ x.1 ≤ acts.length ∧ x.1 ≤ 60) ∧ (True)) → Sk 246 K107 ([(19, i64 x.1), (17, twoV2 x.2.t), (15, twoV1 x.2.t), (14, ptr p31), (13, dp q29), (0, i64 n), (1, i64 a), (2, i64 b), (3, i64 nb), (4, lv), (5, i64 k)]) ([twoA x.2.t, twoB q29 x.2.t, twoC x.2.t, twoD p31 x.2.t, dev q29 x.2.D, rdev p31 la31 x.2.E] ++ R) := by
       rintro ⟨z, D, E, t⟩ ⟨hI1, hX1⟩
       refine hK107 _ _ ?_
       obtain ⟨hS, hz1, hz2⟩ := hI1; dsimp only at hS hz1 hz2 ⊢
       refine cseq ?_; intro K109 hK109
       refine creg ?_
       refine y (ev_assign rfl) rfl ?_
       refine ynil' (kthn (hK109 _ _ ?_))
       clear hK109
       refine cret ?_
       first
         | (exfalso; omega; done)
         | (refine kretv Tryz.results3 rfl (L1 := R) (by repeat first | exact .refl | exact .nil | exact .z | apply Pk.s | refine Ge.e ?_ | apply Ge.pick | apply Ge.drop) ?_
            exact ⟨_, ⟨by first | rfl | (exfalso; simp_all; done), rfl⟩, by first | rfl | (exfalso; simp_all; done)⟩)
      clear hK107
      refine cblock ?_
      refine cloop (A := Nat × DdM) (fun x => [(19, i64 x.1), (17, twoV2 x.2.t), (15, twoV1 x.2.t), (14, ptr p31), (13, dp q29), (0, i64 n), (1, i64 a), (2, i64 b), (3, i64 nb), (4, lv), (5, i64 k)]) (fun x => [twoA x.2.t, twoB q29 x.2.t, twoC x.2.t, twoD p31 x.2.t, dev q29 x.2.D, rdev p31 la31 x.2.E] ++ R) (fun x => x.2.ok n.toNat ∧ x.1 ≤ acts.length ∧ x.1 ≤ 60) (fun x => acts.length - x.1) ((0, ⟨D0, E0, t0⟩)) ?_ (by repeat first | exact sub_nil | refine sub_cons rfl ?_ | refine sub_cons' rfl (by simp) ?_) (by repeat first | exact .refl | exact .nil | exact .z | apply Pk.s | refine Ge.e ?_ | apply Ge.pick | apply Ge.drop) ?_
      · exact ⟨hS0, Nat.zero_le _, Nat.zero_le _⟩
      rintro ⟨z, D, E, t⟩ hI1 KL1 hL1
      have hI1o := hI1
      obtain ⟨hS, hz1, hz2⟩ := hI1; dsimp only at hS hz1 hz2 ⊢
      refine cseq ?_; intro K110 hK110
      refine cseq ?_; intro K111 hK111
      refine creg ?_
      refine y (ev_move rfl) rfl ?_
      refine y (ev_move rfl) rfl ?_
      first
        | refine y (ev_len rfl Tryz.underlying22) rfl ?_
        | refine y (ev_lenSv rfl Tryz.underlying22 (by assumption)) rfl ?_
        | refine y (ev_lenV rfl Tryz.underlying22 (RdV.lenVal (by assumption))) rfl ?_
        | refine y (ev_lenV rfl Tryz.underlying22 (RdB.lenVal (by assumption))) rfl ?_
      refine y (ev_lss rfl rfl) rfl ?_
      refine y (ev_move rfl) rfl ?_
      refine ysplit 74 rfl (fun h797 => ?_) (fun h797 => ?_)
      ·(try simp only [sH] at h797)
       refine yg1 rfl rfl ?_
       refine y (ev_move rfl) rfl ?_
       refine yg1 rfl rfl ?_
       refine y (ev_lss rfl rfl) rfl ?_
       refine y (ev_pick1 rfl rfl) rfl ?_
       refine ynil' (kthn (hK111 _ _ ?_))
       clear hK111
       refine ccond rfl (fun h801 => ?_) (fun h801 => ?_)
       ·(try simp only [sH] at h801)
        obtain ⟨yy, hy⟩ : ∃ yy, acts[z]? = some yy := ⟨_, List.getElem?_eq_getElem (by omega)⟩
        have hact := haa yy (List.mem_of_getElem? hy)
        refine cskip' (kthn (hK110 _ _ ?_))
        clear hK110
        refine cseq ?_; intro K112 hK112
        refine cblock ?_
        refine cseq ?_; intro K113 hK113
        refine creg ?_
        refine y (ev_move rfl) rfl ?_
        refine y (ev_move rfl) rfl ?_
        first
          | refine y (ev_ixAddr rfl rfl Tryz.underlying22 Tryz.sizeOf37 (by omega) (by omega)) rfl ?_
          | refine y (ev_ixV (by assumption) rfl rfl Tryz.underlying22 Tryz.sizeOf37 (by omega) (by omega)) rfl ?_
        refine y (ev_loadNV (us := yy.cells) (z * 4) hl (by repeat first | exact .refl | exact .nil | exact .z | apply Pk.s | refine Ge.e ?_ | apply Ge.pick | apply Ge.drop) rfl Tryz.isAgg37 Tryz.sizeOf37 (by simp) (actlsV_get hy) rfl) rfl ?_
        refine ya (ac_alloc Tryz.zeroValue37 rfl) rfl ?_
        rintro v L' ⟨b20, rfl, rfl⟩
        refine ya0 (ac_storeN rfl rfl hact.one Tryz.sizeOf37 (by repeat first | exact .z | apply Rp.s) rfl (by decide) rfl) ?_
        rintro v L' ⟨rfl, rfl⟩
        refine ynil' (kthn (hK113 _ _ ?_))
        clear hK113
        refine cseq ?_; intro K114 hK114
        refine cseq ?_; intro K115 hK115
        refine creg ?_
        refine y (ev_loadN (u := yy.cells) rfl Tryz.isAgg37 Tryz.sizeOf37 (by repeat first | exact .z | apply In.s) rfl rfl) rfl ?_
        refine ycall (nLarge8 ?lx809) rfl Tryz.call9 (by repeat first | exact .nil | exact .z | apply Pk.s | apply Tk.cons) rfl ?_
        case lx809 => exact hact.mono (by repeat first | exact .refl | exact .nil | exact .z | apply Pk.s | refine Ge.e ?_ | apply Ge.pick | apply Ge.drop)
        rintro v L' ⟨big85, rfl, hbig85, rfl⟩
        refine ynil' (kthn (hK115 _ _ ?_))
        clear hK115
        refine ccond rfl (fun h810 => ?_) (fun h810 => ?_)
        ·(try simp only [sH] at h810)
         refine cseq ?_; intro K116 hK116
         refine creg ?_
         refine y (ev_assign rfl) rfl ?_
         refine ynil' (kthn (hK116 _ _ ?_))
         clear hK116
         refine cret (kthr (kbr (kthr (kthr (kbr (kthr ?_))))))
         first
           | (exfalso; omega; done)
           | (refine kretv Tryz.results3 rfl (L1 := R) (by repeat first | exact .refl | exact .nil | exact .z | apply Pk.s | refine Ge.e ?_ | apply Ge.pick | apply Ge.drop) ?_
              exact ⟨_, ⟨by first | rfl | (exfalso; simp_all; done), rfl⟩, by first | rfl | (exfalso; simp_all; done)⟩)
        ·(try simp only [sH] at h810)
         have hlg := hbig85 h810
         refine cskip' (kthn (hK114 _ _ ?_))
         clear hK114
         refine cseq ?_; intro K117 hK117
         have hJr36 : ∀ x : DdM, (x.ok n.toNat) → Sk 246 K117 ([(19, i64 z), (17, twoV2 x.t), (15, twoV1 x.t), (14, ptr p31), (13, dp q29), (0, i64 n), (1, i64 a), (2, i64 b), (3, i64 nb), (4, lv), (5, i64 k)]) ([twoA x.t, twoB q29 x.t, twoC x.t, twoD p31 x.t, dev q29 x.D, rdev p31 la31 x.E] ++ R) := by
          rintro ⟨D, E, t⟩ hIr36
          refine hK117 _ _ ?_
          clear hS; have hS := hIr36; dsimp only at hS ⊢
          refine cseq ?_; intro K118 hK118
          refine cseq ?_; intro K119 hK119
          refine cdraw 26 [(0, true), (1, true), (2, true), (3, true), (5, true), (4, false), (6, false), (7, false), (8, true), (9, true), (10, true), (11, true), (13, true), (14, true), (12, false), (15, false), (16, true), (17, true), (18, true), (19, true), (22, true), (23, true), (24, true), (25, true), (20, false), (21, false)] (_) Tryz.mixed (by kernel_rfl) .refl ?_
          rcases t with _ | ⟨⟨l1, c1⟩, ⟨l2, c2⟩, L⟩
          ·skip
           refine hr rfl (ev_move rfl) rfl ?_
           refine hr rfl (ev_neqPnil rfl rfl Tryz.underlying28) rfl ?_
           first | (let tt : Two := some ((l1, c1), (l2, c2), L); have hSl : L.ok D := hS.l) | (let tt : Two := none)
           refine hr rfl (ev_move rfl) rfl ?_
           refine hr0 rfl rfl rfl rfl rfl ?_
           refine hr0 rfl rfl rfl rfl rfl ?_
           refine ha0 rfl rfl rfl rfl rfl (by repeat first | exact .refl | exact .nil | exact .z | apply Pk.s | refine Ge.e ?_ | apply Ge.pick | apply Ge.drop) ?_
           refine ha0 rfl rfl rfl rfl rfl (by repeat first | exact .refl | exact .nil | exact .z | apply Pk.s | refine Ge.e ?_ | apply Ge.pick | apply Ge.drop) ?_
           refine ha0 rfl rfl rfl rfl rfl (by repeat first | exact .refl | exact .nil | exact .z | apply Pk.s | refine Ge.e ?_ | apply Ge.pick | apply Ge.drop) ?_
           refine hr0 rfl rfl rfl rfl rfl ?_
           refine hr0 rfl rfl rfl rfl rfl ?_
           refine hr0u rfl rfl rfl rfl ?_
           refine hr0u rfl rfl rfl rfl ?_
           refine hr0u rfl rfl rfl rfl ?_
           refine hr0u rfl rfl rfl rfl ?_
           refine ha0u rfl rfl rfl rfl (by repeat first | exact .refl | exact .nil | exact .z | apply Pk.s | refine Ge.e ?_ | apply Ge.pick | apply Ge.drop) ?_
           refine ha0u rfl rfl rfl rfl (by repeat first | exact .refl | exact .nil | exact .z | apply Pk.s | refine Ge.e ?_ | apply Ge.pick | apply Ge.drop) ?_
           refine hr0u rfl rfl rfl rfl ?_
           refine hr0 rfl rfl rfl rfl rfl ?_
           refine hr0 rfl rfl rfl rfl rfl ?_
           refine hr0u rfl rfl rfl rfl ?_
           refine hr0u rfl rfl rfl rfl ?_
           refine hr0u rfl rfl rfl rfl ?_
           refine hr0u rfl rfl rfl rfl ?_
           refine hr0u rfl rfl rfl rfl ?_
           refine ha0u rfl rfl rfl rfl (by repeat first | exact .refl | exact .nil | exact .z | apply Pk.s | refine Ge.e ?_ | apply Ge.pick | apply Ge.drop) ?_
           refine ha0u rfl rfl rfl rfl (by repeat first | exact .refl | exact .nil | exact .z | apply Pk.s | refine Ge.e ?_ | apply Ge.pick | apply Ge.drop) ?_
           refine hnil ?_
           refine yg0u rfl rfl rfl ?_
           refine yg0u rfl rfl rfl ?_
           refine yg0 rfl rfl rfl rfl ?_
           refine y (ev_pick0 rfl rfl) rfl ?_
           refine hnoP' (kthn (hK119 _ _ ?_))
           clear hK119
           refine ccond0 rfl ?_
           refine cskip' (kthn (hK118 _ _ ?_))
           clear hK118
           refine cseq ?_; intro K120 hK120
           refine creg ?_
           refine y (ev_assign rfl) rfl ?_
           refine ynil' (kthn (hK120 _ _ ?_))
           clear hK120
           refine cblock ?_
           refine cloop (A := Nat) (fun x => [(21, i64 x), (19, i64 z), (17, twoV2 tt), (15, twoV1 tt), (14, ptr p31), (13, dp q29), (0, i64 n), (1, i64 a), (2, i64 b), (3, i64 nb), (4, lv), (5, i64 k)]) (fun x => [twoA tt, twoB q29 tt, twoC tt, twoD p31 tt, dev q29 D, rdev p31 la31 E] ++ R) (fun x => x ≤ 6) (fun x => 6 - x) (0) ?_ (by repeat first | exact sub_nil | refine sub_cons rfl ?_ | refine sub_cons' rfl (by simp) ?_) (by repeat first | exact .refl | exact .nil | exact .z | apply Pk.s | refine Ge.e ?_ | apply Ge.pick | apply Ge.drop) ?_
           · exact Nat.zero_le _
           rintro s hI2 KL2 hL2
           have hs6 := hI2
           refine cseq ?_; intro K121 hK121
           refine cseq ?_; intro K122 hK122
           refine creg ?_
           refine y (ev_move rfl) rfl ?_
           refine y (ev_move rfl) rfl ?_
           refine y (ev_lss rfl rfl) rfl ?_
           refine y (ev_move rfl) rfl ?_
           refine ysplit 218 rfl (fun h821 => ?_) (fun h821 => ?_)
           ·(try simp only [sH] at h821)
            refine yg1 rfl rfl ?_
            refine y (ev_move rfl) rfl ?_
            refine yg1 rfl rfl ?_
            refine y (ev_lss rfl rfl) rfl ?_
            refine y (ev_pick1 rfl rfl) rfl ?_
            refine ynil' (kthn (hK122 _ _ ?_))
            clear hK122
            refine ccond rfl (fun h825 => ?_) (fun h825 => ?_)
            ·(try simp only [sH] at h825)
             refine cskip' (kthn (hK121 _ _ ?_))
             clear hK121
             refine cseq ?_; intro K123 hK123
             refine cblock ?_
             refine cseq ?_; intro K124 hK124
             refine creg ?_
             refine y (ev_move rfl) rfl ?_
             refine y (ev_move rfl) rfl ?_
             refine ycall (secReadU hS.r.ok) rfl Tryz.call29 (by repeat first | exact .nil | exact .z | apply Pk.s | apply Tk.cons) rfl ?_
             rintro v L' ⟨s227, rfl, ok227, rfl⟩
             refine y (ev_move rfl) rfl ?_
             refine y (ev_extract rfl rfl) rfl ?_
             refine y (ev_extract rfl rfl) rfl ?_
             refine y (ev_assign rfl) rfl ?_
             refine y (ev_assign rfl) rfl ?_
             refine ynil' (kthn (hK124 _ _ ?_))
             clear hK124
             refine cseq ?_; intro K125 hK125
             refine creg ?_
             refine y (ev_move rfl) rfl ?_
             refine y (ev_move rfl) rfl ?_
             refine ycall (rdReadU hS.r.rok (fun h => by rw [← hS.r.has] at h; obtain ⟨-, q0, q1⟩ := has_zero h; rw [← hS.r.sec q0 q1]; exact sec_length hS.r.ok _)) rfl Tryz.call30 (by repeat first | exact .nil | exact .z | apply Pk.s | apply Tk.cons) rfl ?_
             rintro v L' ⟨s233, rfl, ok233, rfl⟩
             rw [← hS.r.rdB, ← hS.r.has] at *
             have hb227 : RdB [svSeg s227 5 (bytesV (D.rdB s))] (svVal s227 (D.rdB s).length) (D.rdB s) := rdB_sv .z ok227
             have hb233 : RdB [svSeg s233 5 (bytesV (D.rdB s))] (svVal s233 (D.rdB s).length) (D.rdB s) := rdB_sv .z ok233
             generalize D.rdB s = bs at *
             refine y (ev_move rfl) rfl ?_
             refine y (ev_extract rfl rfl) rfl ?_
             refine y (ev_extract rfl rfl) rfl ?_
             refine y (ev_assign rfl) rfl ?_
             refine y (ev_assign rfl) rfl ?_
             refine ynil' (kthn (hK125 _ _ ?_))
             clear hK125
             refine cseq ?_; intro K126 hK126
             refine creg ?_
             skip
             ·skip
              refine y (ev_move rfl) rfl ?_
              refine y (ev_toStrB hb227 (by repeat first | exact .refl | exact .nil | exact .z | apply Pk.s | refine Ge.e ?_ | apply Ge.pick | apply Ge.drop) rfl Tryz.underlying47 Tryz.underlying9 Tryz.underlying5) rfl ?_
              refine y (ev_move rfl) rfl ?_
              refine y (ev_toStrB hb233 (by repeat first | exact .refl | exact .nil | exact .z | apply Pk.s | refine Ge.e ?_ | apply Ge.pick | apply Ge.drop) rfl Tryz.underlying47 Tryz.underlying9 Tryz.underlying5) rfl ?_
              first
                | refine y (ev_neqL rfl rfl) rfl ?_
                | refine y (ev_neqS rfl rfl) rfl ?_
              rw [show decide (bs ≠ bs) = false by simp]
              refine y (ev_move rfl) rfl ?_
              refine yg1 rfl rfl ?_
              refine y (ev_move rfl) rfl ?_
              refine yg1 rfl rfl ?_
              refine y (ev_move rfl) rfl ?_
              refine yg1 rfl rfl ?_
              refine y (ev_neq rfl rfl) rfl ?_
              rw [show (!decide (D.has s = D.has s)) = false by simp]
              refine y (ev_pick0 rfl rfl) rfl ?_
              refine ynil' (kthn (hK126 _ _ ?_))
              clear hK126
              refine ccond0 rfl ?_
              refine cskip' (kbn (kthn (hK123 _ _ ?_)))
              clear hK123
              refine creg ?_
              refine y (ev_move rfl) rfl ?_
              refine y (ev_add rfl rfl) rfl ?_
              rw [show IntKind.i64.wrap ((s:Int) + 1) = ((s+1 : Nat) : Int) by rw [wr (by omega) (by omega)]; rfl]
              refine y (ev_assign rfl) rfl ?_
              refine ynil' (kthn ?_)
              exact hL2 (s + 1) (by first | omega | (dsimp only; omega)) (by omega) _ _ (by repeat first | exact sub_nil | refine sub_cons rfl ?_ | refine sub_cons' rfl (by simp) ?_) (by repeat first | exact .refl | exact .nil | exact .z | apply Pk.s | refine Ge.e ?_ | apply Ge.pick | apply Ge.drop)
            ·(try simp only [sH] at h825)
             refine cexit (kthx (kthx (kbx (kbn (kthn (hK112 _ _ ?_))))))
             clear hK112
             refine creg ?_
             refine y (ev_move rfl) rfl ?_
             refine y (ev_add rfl rfl) rfl ?_
             rw [show IntKind.i64.wrap ((z:Int) + 1) = ((z+1 : Nat) : Int) by rw [wr (by omega) (by omega)]; rfl]
             refine y (ev_assign rfl) rfl ?_
             refine ynil' (kthn ?_)
             exact hL1 (z + 1, ⟨D, E, tt⟩) ⟨hS, by dsimp only; omega, by dsimp only; omega⟩ (by dsimp only; omega) _ _ (by repeat first | exact sub_nil | refine sub_cons rfl ?_ | refine sub_cons' rfl (by simp) ?_) (by repeat first | exact .refl | exact .nil | exact .z | apply Pk.s | refine Ge.e ?_ | apply Ge.pick | apply Ge.drop)
           ·(try simp only [sH] at h821)
            refine yg0 rfl rfl rfl rfl ?_
            refine yg0 rfl rfl rfl rfl ?_
            refine y (ev_pick0 rfl rfl) rfl ?_
            refine ynil' (kthn (hK122 _ _ ?_))
            clear hK122
            refine ccond0 rfl ?_
            refine cexit (kthx (kthx (kbx (kbn (kthn (hK112 _ _ ?_))))))
            clear hK112
            refine creg ?_
            refine y (ev_move rfl) rfl ?_
            refine y (ev_add rfl rfl) rfl ?_
            rw [show IntKind.i64.wrap ((z:Int) + 1) = ((z+1 : Nat) : Int) by rw [wr (by omega) (by omega)]; rfl]
            refine y (ev_assign rfl) rfl ?_
            refine ynil' (kthn ?_)
            exact hL1 (z + 1, ⟨D, E, tt⟩) ⟨hS, by dsimp only; omega, by dsimp only; omega⟩ (by dsimp only; omega) _ _ (by repeat first | exact sub_nil | refine sub_cons rfl ?_ | refine sub_cons' rfl (by simp) ?_) (by repeat first | exact .refl | exact .nil | exact .z | apply Pk.s | refine Ge.e ?_ | apply Ge.pick | apply Ge.drop)
          ·skip
           refine hr rfl (ev_move rfl) rfl ?_
           refine hr rfl (ev_neqPnil rfl rfl Tryz.underlying28) rfl ?_
           first | (let tt : Two := some ((l1, c1), (l2, c2), L); have hSl : L.ok D := hS.l) | (let tt : Two := none)
           refine hr rfl (ev_move rfl) rfl ?_
           refine hr1 rfl rfl rfl (ev_move rfl) rfl ?_
           refine hr1 rfl rfl rfl (ev_move rfl) rfl ?_
           refine hcall1 rfl rfl rfl (dBlocks ?dn867 ?db867) rfl Tryz.call22 (by repeat first | exact .nil | exact .z | apply Pk.s | apply Tk.cons) rfl ?_
           case dn867 => exact hSl.n
           case db867 => exact hSl.bits
           rintro v L' ⟨s189, rfl, ok189, rfl⟩; refine ⟨(by repeat first | exact .refl | exact .nil | exact .z | apply Pk.s | refine Ge.e ?_ | apply Ge.pick | apply Ge.drop), ?_⟩
           refine hcall1 rfl rfl rfl (qAll ?dn868) rfl Tryz.call23 (by repeat first | exact .nil | exact .z | apply Pk.s | apply Tk.cons) rfl ?_
           case dn868 => exact hSl.n
           rintro v L' ⟨s191, rfl, ok191, rfl⟩; refine ⟨(by repeat first | exact .refl | exact .nil | exact .z | apply Pk.s | refine Ge.e ?_ | apply Ge.pick | apply Ge.drop), ?_⟩
           refine hcall1 rfl rfl rfl (nInts (u1 := L.blks) (u2 := L.blks) ?ia869 ?ib869 ?ic869 ?id869) rfl Tryz.call21 (by repeat first | exact .nil | exact .z | apply Pk.s | apply Tk.cons) rfl ?_
           case ia869 => exact rdV_sv (by repeat first | exact .z | apply In.s) ok189
           case ib869 => exact rdV_sv (by repeat first | exact .z | apply In.s) ok191
           case ic869 => have h1 := blksTo_le L L.n; have h2 := hSl.n; show (blksTo L L.n).length ≤ 1000; omega
           case id869 => have h1 := blksTo_le L L.n; have h2 := hSl.n; show (blksTo L L.n).length ≤ 1000; omega
           rintro v L' ⟨rfl, rfl⟩; refine ⟨(by repeat first | exact .refl | exact .nil | exact .z | apply Pk.s | refine Ge.e ?_ | apply Ge.pick | apply Ge.drop), ?_⟩
           rw [show decide (L.blks = L.blks) = true by simp]
           refine hr1 rfl rfl rfl (ev_not rfl) rfl ?_
           refine hr1 rfl rfl rfl (ev_move rfl) rfl ?_
           refine hr1 rfl rfl rfl (ev_move rfl) rfl ?_
           refine hr1 rfl rfl rfl (ev_move rfl) rfl ?_
           refine hr1 rfl rfl rfl (ev_move rfl) rfl ?_
           refine hr1 rfl rfl rfl (ev_move rfl) rfl ?_
           refine hcall1 rfl rfl rfl (dHas ?dn876 ?db876 ?di876 ?dj876) rfl Tryz.call24 (by repeat first | exact .nil | exact .z | apply Pk.s | apply Tk.cons) rfl ?_
           case dn876 => exact hSl.n
           case db876 => exact hSl.bits
           case di876 => exact hk1
           case dj876 => exact hk2
           rintro v L' ⟨rfl, rfl⟩; refine ⟨(by repeat first | exact .refl | exact .nil | exact .z | apply Pk.s | refine Ge.e ?_ | apply Ge.pick | apply Ge.drop), ?_⟩
           refine hcall1 rfl rfl rfl (qHas ?dn877 ?dj877) rfl Tryz.call25 (by repeat first | exact .nil | exact .z | apply Pk.s | apply Tk.cons) rfl ?_
           case dn877 => exact hSl.n
           case dj877 => exact hk2
           rintro v L' ⟨rfl, rfl⟩; refine ⟨(by repeat first | exact .refl | exact .nil | exact .z | apply Pk.s | refine Ge.e ?_ | apply Ge.pick | apply Ge.drop), ?_⟩
           refine hr1 rfl rfl rfl (ev_neqB rfl rfl Tryz.underlying4) rfl ?_
           rw [show (!(L.has k == L.has k)) = false by simp]
           refine hr1 rfl rfl rfl (ev_pick0 rfl rfl) rfl ?_
           refine hr1 rfl rfl rfl (ev_move rfl) rfl ?_
           refine hr1 rfl rfl rfl (ev_move rfl) rfl ?_
           refine hr1 rfl rfl rfl (ev_move rfl) rfl ?_
           refine hr1 rfl rfl rfl (ev_nil rfl) rfl ?_
           refine hr1 rfl rfl rfl (ev_fieldAddr 2 rfl Tryz.underlying62 rfl Tryz.sizeOf60) rfl ?_
           refine hr1 rfl rfl rfl (ev_loadN (u := rowC (regs L.n) L.bits) rfl Tryz.isAgg60 Tryz.sizeOf60 (by repeat first | exact .z | apply In.s) (rdrl_row c2 L) (rowC_len _ _)) rfl ?_
           refine hcall1 rfl rfl rfl (dRow) rfl Tryz.call26 (by repeat first | exact .nil | exact .z | apply Pk.s | apply Tk.cons) rfl ?_
           rintro v L' ⟨rfl, rfl⟩; refine ⟨(by repeat first | exact .refl | exact .nil | exact .z | apply Pk.s | refine Ge.e ?_ | apply Ge.pick | apply Ge.drop), ?_⟩
           refine hcall1 rfl rfl rfl (xText ?xn887 ?xb887) rfl Tryz.call27 (by repeat first | exact .nil | exact .z | apply Pk.s | apply Tk.cons) rfl ?_
           case xn887 => exact Nat.le_trans (regs_le hSl.n).2 (by omega)
           case xb887 => exact hSl.bits
           rintro v L' ⟨rfl, rfl⟩; refine ⟨(by repeat first | exact .refl | exact .nil | exact .z | apply Pk.s | refine Ge.e ?_ | apply Ge.pick | apply Ge.drop), ?_⟩
           refine hnil ?_
           refine yg1 rfl rfl ?_
           refine ycall (r7Text ?xn888 ?xb888) rfl Tryz.call28 (by repeat first | exact .nil | exact .z | apply Pk.s | apply Tk.cons) rfl ?_
           case xn888 => exact Nat.le_trans (regs_le hSl.n).2 (by omega)
           case xb888 => exact hSl.bits
           rintro v L' ⟨rfl, rfl⟩
           refine yg1 rfl rfl ?_
           first
             | refine y (ev_neqL rfl rfl) rfl ?_
             | refine y (ev_neqS rfl rfl) rfl ?_
           rw [show decide (textR (regs L.n) L.bits ≠ textR (regs L.n) L.bits) = false by simp]
           refine yg1 rfl rfl ?_
           refine y (ev_pick0 rfl rfl) rfl ?_
           refine y (ev_pick1 rfl rfl) rfl ?_
           refine hnoP' (kthn (hK119 _ _ ?_))
           clear hK119
           refine ccond0 rfl ?_
           refine cskip' (kthn (hK118 _ _ ?_))
           clear hK118
           refine cseq ?_; intro K127 hK127
           refine creg ?_
           refine y (ev_assign rfl) rfl ?_
           refine ynil' (kthn (hK127 _ _ ?_))
           clear hK127
           refine cblock ?_
           refine cloop (A := Nat) (fun x => [(21, i64 x), (19, i64 z), (17, twoV2 tt), (15, twoV1 tt), (14, ptr p31), (13, dp q29), (0, i64 n), (1, i64 a), (2, i64 b), (3, i64 nb), (4, lv), (5, i64 k)]) (fun x => [twoA tt, twoB q29 tt, twoC tt, twoD p31 tt, dev q29 D, rdev p31 la31 E] ++ R) (fun x => x ≤ 6) (fun x => 6 - x) (0) ?_ (by repeat first | exact sub_nil | refine sub_cons rfl ?_ | refine sub_cons' rfl (by simp) ?_) (by repeat first | exact .refl | exact .nil | exact .z | apply Pk.s | refine Ge.e ?_ | apply Ge.pick | apply Ge.drop) ?_
           · exact Nat.zero_le _
           rintro s hI2 KL2 hL2
           have hs6 := hI2
           refine cseq ?_; intro K128 hK128
           refine cseq ?_; intro K129 hK129
           refine creg ?_
           refine y (ev_move rfl) rfl ?_
           refine y (ev_move rfl) rfl ?_
           refine y (ev_lss rfl rfl) rfl ?_
           refine y (ev_move rfl) rfl ?_
           refine ysplit 218 rfl (fun h897 => ?_) (fun h897 => ?_)
           ·(try simp only [sH] at h897)
            refine yg1 rfl rfl ?_
            refine y (ev_move rfl) rfl ?_
            refine yg1 rfl rfl ?_
            refine y (ev_lss rfl rfl) rfl ?_
            refine y (ev_pick1 rfl rfl) rfl ?_
            refine ynil' (kthn (hK129 _ _ ?_))
            clear hK129
            refine ccond rfl (fun h901 => ?_) (fun h901 => ?_)
            ·(try simp only [sH] at h901)
             refine cskip' (kthn (hK128 _ _ ?_))
             clear hK128
             refine cseq ?_; intro K130 hK130
             refine cblock ?_
             refine cseq ?_; intro K131 hK131
             refine creg ?_
             refine y (ev_move rfl) rfl ?_
             refine y (ev_move rfl) rfl ?_
             refine ycall (secReadU hS.r.ok) rfl Tryz.call29 (by repeat first | exact .nil | exact .z | apply Pk.s | apply Tk.cons) rfl ?_
             rintro v L' ⟨s227, rfl, ok227, rfl⟩
             refine y (ev_move rfl) rfl ?_
             refine y (ev_extract rfl rfl) rfl ?_
             refine y (ev_extract rfl rfl) rfl ?_
             refine y (ev_assign rfl) rfl ?_
             refine y (ev_assign rfl) rfl ?_
             refine ynil' (kthn (hK131 _ _ ?_))
             clear hK131
             refine cseq ?_; intro K132 hK132
             refine creg ?_
             refine y (ev_move rfl) rfl ?_
             refine y (ev_move rfl) rfl ?_
             refine ycall (rdReadU hS.r.rok (fun h => by rw [← hS.r.has] at h; obtain ⟨-, q0, q1⟩ := has_zero h; rw [← hS.r.sec q0 q1]; exact sec_length hS.r.ok _)) rfl Tryz.call30 (by repeat first | exact .nil | exact .z | apply Pk.s | apply Tk.cons) rfl ?_
             rintro v L' ⟨s233, rfl, ok233, rfl⟩
             rw [← hS.r.rdB, ← hS.r.has] at *
             have hb227 : RdB [svSeg s227 5 (bytesV (D.rdB s))] (svVal s227 (D.rdB s).length) (D.rdB s) := rdB_sv .z ok227
             have hb233 : RdB [svSeg s233 5 (bytesV (D.rdB s))] (svVal s233 (D.rdB s).length) (D.rdB s) := rdB_sv .z ok233
             generalize D.rdB s = bs at *
             refine y (ev_move rfl) rfl ?_
             refine y (ev_extract rfl rfl) rfl ?_
             refine y (ev_extract rfl rfl) rfl ?_
             refine y (ev_assign rfl) rfl ?_
             refine y (ev_assign rfl) rfl ?_
             refine ynil' (kthn (hK132 _ _ ?_))
             clear hK132
             refine cseq ?_; intro K133 hK133
             refine creg ?_
             skip
             ·skip
              refine y (ev_move rfl) rfl ?_
              refine y (ev_toStrB hb227 (by repeat first | exact .refl | exact .nil | exact .z | apply Pk.s | refine Ge.e ?_ | apply Ge.pick | apply Ge.drop) rfl Tryz.underlying47 Tryz.underlying9 Tryz.underlying5) rfl ?_
              refine y (ev_move rfl) rfl ?_
              refine y (ev_toStrB hb233 (by repeat first | exact .refl | exact .nil | exact .z | apply Pk.s | refine Ge.e ?_ | apply Ge.pick | apply Ge.drop) rfl Tryz.underlying47 Tryz.underlying9 Tryz.underlying5) rfl ?_
              first
                | refine y (ev_neqL rfl rfl) rfl ?_
                | refine y (ev_neqS rfl rfl) rfl ?_
              rw [show decide (bs ≠ bs) = false by simp]
              refine y (ev_move rfl) rfl ?_
              refine yg1 rfl rfl ?_
              refine y (ev_move rfl) rfl ?_
              refine yg1 rfl rfl ?_
              refine y (ev_move rfl) rfl ?_
              refine yg1 rfl rfl ?_
              refine y (ev_neq rfl rfl) rfl ?_
              rw [show (!decide (D.has s = D.has s)) = false by simp]
              refine y (ev_pick0 rfl rfl) rfl ?_
              refine ynil' (kthn (hK133 _ _ ?_))
              clear hK133
              refine ccond0 rfl ?_
              refine cskip' (kbn (kthn (hK130 _ _ ?_)))
              clear hK130
              refine creg ?_
              refine y (ev_move rfl) rfl ?_
              refine y (ev_add rfl rfl) rfl ?_
              rw [show IntKind.i64.wrap ((s:Int) + 1) = ((s+1 : Nat) : Int) by rw [wr (by omega) (by omega)]; rfl]
              refine y (ev_assign rfl) rfl ?_
              refine ynil' (kthn ?_)
              exact hL2 (s + 1) (by first | omega | (dsimp only; omega)) (by omega) _ _ (by repeat first | exact sub_nil | refine sub_cons rfl ?_ | refine sub_cons' rfl (by simp) ?_) (by repeat first | exact .refl | exact .nil | exact .z | apply Pk.s | refine Ge.e ?_ | apply Ge.pick | apply Ge.drop)
            ·(try simp only [sH] at h901)
             refine cexit (kthx (kthx (kbx (kbn (kthn (hK112 _ _ ?_))))))
             clear hK112
             refine creg ?_
             refine y (ev_move rfl) rfl ?_
             refine y (ev_add rfl rfl) rfl ?_
             rw [show IntKind.i64.wrap ((z:Int) + 1) = ((z+1 : Nat) : Int) by rw [wr (by omega) (by omega)]; rfl]
             refine y (ev_assign rfl) rfl ?_
             refine ynil' (kthn ?_)
             exact hL1 (z + 1, ⟨D, E, tt⟩) ⟨hS, by dsimp only; omega, by dsimp only; omega⟩ (by dsimp only; omega) _ _ (by repeat first | exact sub_nil | refine sub_cons rfl ?_ | refine sub_cons' rfl (by simp) ?_) (by repeat first | exact .refl | exact .nil | exact .z | apply Pk.s | refine Ge.e ?_ | apply Ge.pick | apply Ge.drop)
           ·(try simp only [sH] at h897)
            refine yg0 rfl rfl rfl rfl ?_
            refine yg0 rfl rfl rfl rfl ?_
            refine y (ev_pick0 rfl rfl) rfl ?_
            refine ynil' (kthn (hK129 _ _ ?_))
            clear hK129
            refine ccond0 rfl ?_
            refine cexit (kthx (kthx (kbx (kbn (kthn (hK112 _ _ ?_))))))
            clear hK112
            refine creg ?_
            refine y (ev_move rfl) rfl ?_
            refine y (ev_add rfl rfl) rfl ?_
            rw [show IntKind.i64.wrap ((z:Int) + 1) = ((z+1 : Nat) : Int) by rw [wr (by omega) (by omega)]; rfl]
            refine y (ev_assign rfl) rfl ?_
            refine ynil' (kthn ?_)
            exact hL1 (z + 1, ⟨D, E, tt⟩) ⟨hS, by dsimp only; omega, by dsimp only; omega⟩ (by dsimp only; omega) _ _ (by repeat first | exact sub_nil | refine sub_cons rfl ?_ | refine sub_cons' rfl (by simp) ?_) (by repeat first | exact .refl | exact .nil | exact .z | apply Pk.s | refine Ge.e ?_ | apply Ge.pick | apply Ge.drop)
         clear hK117
         refine cblock ?_
         refine cseq ?_; intro K134 hK134
         refine creg ?_
         rcases t with _ | ⟨⟨l1, c1⟩, ⟨l2, c2⟩, L⟩
         ·skip
          refine y (ev_fieldAddr 0 rfl Tryz.underlying37 rfl Tryz.sizeOf3) rfl ?_
          refine y (ev_load rfl Tryz.isAgg3 (by repeat first | exact .z | apply In.s) rfl) rfl ?_
          refine y (ev_eql rfl rfl) rfl ?_
          refine y (ev_move rfl) rfl ?_
          refine ysplit 90 rfl (fun h942 => ?_) (fun h942 => ?_)
          ·(try simp only [sH] at h942)
           refine yg1 rfl rfl ?_
           refine y (ev_move rfl) rfl ?_
           refine yg1 rfl rfl ?_
           refine y (ev_neqPnil rfl rfl Tryz.underlying28) rfl ?_
           refine y (ev_pick1 rfl rfl) rfl ?_
           refine y (ev_assign rfl) rfl ?_
           refine ynil' (kthn (hK134 _ _ ?_))
           clear hK134
           refine ccond0 rfl ?_
           refine cseq ?_; intro K135 hK135
           refine creg ?_
           refine y (ev_fieldAddr 0 rfl Tryz.underlying37 rfl Tryz.sizeOf3) rfl ?_
           refine y (ev_load rfl Tryz.isAgg3 (by repeat first | exact .z | apply In.s) rfl) rfl ?_
           refine y (ev_eql rfl rfl) rfl ?_
           refine y (ev_move rfl) rfl ?_
           refine ysplit 107 rfl (fun h951 => ?_) (fun h951 => ?_)
           ·(try simp only [sH] at h951)
            refine yg1 rfl rfl ?_
            refine y (ev_move rfl) rfl ?_
            refine yg1 rfl rfl ?_
            refine y (ev_neqPnil rfl rfl Tryz.underlying28) rfl ?_
            refine y (ev_pick1 rfl rfl) rfl ?_
            refine y (ev_assign rfl) rfl ?_
            refine ynil' (kthn (hK135 _ _ ?_))
            clear hK135
            refine ccond0 rfl ?_
            refine cseq ?_; intro K136 hK136
            refine creg ?_
            refine y (ev_fieldAddr 0 rfl Tryz.underlying37 rfl Tryz.sizeOf3) rfl ?_
            refine y (ev_load rfl Tryz.isAgg3 (by repeat first | exact .z | apply In.s) rfl) rfl ?_
            refine y (ev_eql rfl rfl) rfl ?_
            refine y (ev_assign rfl) rfl ?_
            refine ynil' (kthn (hK136 _ _ ?_))
            clear hK136
            refine ccond rfl (fun h960 => ?_) (fun h960 => ?_)
            ·(try simp only [sH] at h960)
             refine cseq ?_; intro K137 hK137
             refine creg ?_
             refine y (ev_move rfl) rfl ?_
             refine y (ev_fieldAddr 1 rfl Tryz.underlying37 rfl Tryz.sizeOf3) rfl ?_
             refine y (ev_load rfl Tryz.isAgg3 (by repeat first | exact .z | apply In.s) rfl) rfl ?_
             refine ycall (secFuse) rfl Tryz.call14 (by repeat first | exact .nil | exact .z | apply Pk.s | apply Tk.cons) rfl ?_
             rintro v L' ⟨rfl, rfl⟩
             refine ynil' (kthn (hK137 _ _ ?_))
             clear hK137
             refine creg ?_
             refine y (ev_move rfl) rfl ?_
             refine y (ev_fieldAddr 1 rfl Tryz.underlying37 rfl Tryz.sizeOf3) rfl ?_
             refine y (ev_load rfl Tryz.isAgg3 (by repeat first | exact .z | apply In.s) rfl) rfl ?_
             refine ycall (rdFuse) rfl Tryz.call15 (by repeat first | exact .nil | exact .z | apply Pk.s | apply Tk.cons) rfl ?_
             rintro v L' ⟨rfl, rfl⟩
             have hSn := hS.dev (hS.r.setFuse hact.n.2) (show (D.setFuse yy.n).l.length = n.toNat from hS.len)
             refine ynil' (kbn (kthn ?_))
             exact ksub (by repeat first | exact sub_nil | refine sub_cons rfl ?_ | refine sub_cons' rfl (by simp) ?_) (by repeat first | exact .refl | exact .nil | exact .z | apply Pk.s | refine Ge.e ?_ | apply Ge.pick | apply Ge.drop) (hJr36 _ hSn)
            ·(try simp only [sH] at h960)
             refine cseq ?_; intro K138 hK138
             refine creg ?_
             refine y (ev_fieldAddr 0 rfl Tryz.underlying37 rfl Tryz.sizeOf3) rfl ?_
             refine y (ev_load rfl Tryz.isAgg3 (by repeat first | exact .z | apply In.s) rfl) rfl ?_
             refine y (ev_eql rfl rfl) rfl ?_
             refine y (ev_assign rfl) rfl ?_
             refine ynil' (kthn (hK138 _ _ ?_))
             clear hK138
             refine ccond rfl (fun h973 => ?_) (fun h973 => ?_)
             ·(try simp only [sH] at h973)
              refine cseq ?_; intro K139 hK139
              refine creg ?_
              refine y (ev_move rfl) rfl ?_
              refine y (ev_fieldAddr 3 rfl Tryz.underlying37 rfl Tryz.sizeOf35) rfl ?_
              refine y (ev_load rfl Tryz.isAgg35 (by repeat first | exact .z | apply In.s) rfl) rfl ?_
              refine ycall (secCrash (ks := yy.ks) ?ok977 ?ks977) rfl Tryz.call16 (by repeat first | exact .nil | exact .z | apply Pk.s | apply Tk.cons) rfl ?_
              case ok977 => first | exact hS.r.ok | exact hS.r.rok
              case ks977 => exact hact.keeps.mono (by repeat first | exact .refl | exact .nil | exact .z | apply Pk.s | refine Ge.e ?_ | apply Ge.pick | apply Ge.drop)
              rintro v L' ⟨rfl, rfl⟩
              refine ynil' (kthn (hK139 _ _ ?_))
              clear hK139
              refine cseq ?_; intro K140 hK140
              refine creg ?_
              refine y (ev_move rfl) rfl ?_
              refine y (ev_fieldAddr 3 rfl Tryz.underlying37 rfl Tryz.sizeOf35) rfl ?_
              refine y (ev_load rfl Tryz.isAgg35 (by repeat first | exact .z | apply In.s) rfl) rfl ?_
              refine ycall (nKeeps8 (ks := yy.ks) ?ks981 ?six981) rfl Tryz.call18 (by repeat first | exact .nil | exact .z | apply Pk.s | apply Tk.cons) rfl ?_
              case ks981 => exact hact.keeps.mono (by repeat first | exact .refl | exact .nil | exact .z | apply Pk.s | refine Ge.e ?_ | apply Ge.pick | apply Ge.drop)
              case six981 => omega
              rintro v L' ⟨s139, rfl, ok139, rfl⟩
              refine ycall (rdCrash (ks := yy.ks) ?ok982 ?ks982) rfl Tryz.call17 (by repeat first | exact .nil | exact .z | apply Pk.s | apply Tk.cons) rfl ?_
              case ok982 => first | exact hS.r.ok | exact hS.r.rok
              case ks982 => exact rdV_sv (by repeat first | exact .z | apply In.s) ok139
              rintro v L' ⟨rfl, rfl⟩
              refine ynil' (kthn (hK140 _ _ ?_))
              clear hK140
              refine cseq ?_; intro K141 hK141
              refine creg ?_
              have hR1 := hS.r.crash yy.ks
              have hl1 : (D.crash yy.ks).l.length = n.toNat := by rw [← hS.len]; simp [Dev.crash, crashL_length]
              generalize D.crash yy.ks = D1 at *
              generalize E.crash yy.ks = E1 at *
              refine y (ev_move rfl) rfl ?_
              refine y (ev_move rfl) rfl ?_
              refine y (ev_move rfl) rfl ?_
              refine y (ev_move rfl) rfl ?_
              by_cases ho1 : drlE D1 a b nb = 0
              ·skip
               first | (refine ycall (dOpenOk hR1.ok ho1) rfl Tryz.call7 (by repeat first | exact .nil | exact .z | apply Pk.s | apply Tk.cons) rfl ?_; rintro v L' ⟨l49, c49, rfl, rfl⟩) | (refine ycall (dOpenBad hR1.ok rfl ho1) rfl Tryz.call7 (by repeat first | exact .nil | exact .z | apply Pk.s | apply Tk.cons) rfl ?_; rintro v L' ⟨rfl, rfl⟩)
               refine y (ev_move rfl) rfl ?_
               refine y (ev_extract rfl rfl) rfl ?_
               refine y (ev_extract rfl rfl) rfl ?_
               refine y (ev_assign rfl) rfl ?_
               refine y (ev_assign rfl) rfl ?_
               refine ynil' (kthn (hK141 _ _ ?_))
               clear hK141
               refine cseq ?_; intro K142 hK142
               refine creg ?_
               refine y (ev_move rfl) rfl ?_
               refine y (ev_move rfl) rfl ?_
               refine y (ev_move rfl) rfl ?_
               refine y (ev_move rfl) rfl ?_
               first | (refine ycall (qOpenOk hR1 ho1) rfl Tryz.call8 (by repeat first | exact .nil | exact .z | apply Pk.s | apply Tk.cons) rfl ?_; rintro v L' ⟨l57, c57, rfl, rfl⟩; have hSn := DdM.ok.two hR1 hl1 ho1 l49 c49 l57 c57) | (refine ycall (qOpenBad hR1 ho1) rfl Tryz.call8 (by repeat first | exact .nil | exact .z | apply Pk.s | apply Tk.cons) rfl ?_; rintro v L' ⟨rfl, rfl⟩; have hSn := DdM.ok.none' hR1 hl1)
               refine y (ev_move rfl) rfl ?_
               refine y (ev_extract rfl rfl) rfl ?_
               refine y (ev_extract rfl rfl) rfl ?_
               refine y (ev_assign rfl) rfl ?_
               refine y (ev_assign rfl) rfl ?_
               refine ynil' (kthn (hK142 _ _ ?_))
               clear hK142
               refine cseq ?_; intro K143 hK143
               refine creg ?_
               refine y (ev_move rfl) rfl ?_
               refine y (ev_move rfl) rfl ?_
               refine y (ev_neq rfl rfl) rfl ?_
               try rw [show (!decide (drlE D1 a b nb = drlE D1 a b nb)) = false by simp]
               refine y (ev_move rfl) rfl ?_
               refine yg1 rfl rfl ?_
               refine y (ev_move rfl) rfl ?_
               refine yg1 rfl rfl ?_
               refine y (ev_eqlPnil rfl rfl Tryz.underlying28) rfl ?_
               refine yg1 rfl rfl ?_
               refine y (ev_move rfl) rfl ?_
               refine yg1 rfl rfl ?_
               refine y (ev_eqlPnil rfl rfl Tryz.underlying32) rfl ?_
               refine yg1 rfl rfl ?_
               refine y (ev_neqB rfl rfl Tryz.underlying4) rfl ?_
               refine y (ev_pick0 rfl rfl) rfl ?_
               refine ynil' (kthn (hK143 _ _ ?_))
               clear hK143
               refine ccond0 rfl ?_
               refine cskip' (kbn (kthn ?_))
               exact ksub (by repeat first | exact sub_nil | refine sub_cons rfl ?_ | refine sub_cons' rfl (by simp) ?_) (by repeat first | exact .refl | exact .nil | exact .z | apply Pk.s | refine Ge.e ?_ | apply Ge.pick | apply Ge.drop) (hJr36 _ hSn)
              ·skip
               first | (refine ycall (dOpenOk hR1.ok ho1) rfl Tryz.call7 (by repeat first | exact .nil | exact .z | apply Pk.s | apply Tk.cons) rfl ?_; rintro v L' ⟨l49, c49, rfl, rfl⟩) | (refine ycall (dOpenBad hR1.ok rfl ho1) rfl Tryz.call7 (by repeat first | exact .nil | exact .z | apply Pk.s | apply Tk.cons) rfl ?_; rintro v L' ⟨rfl, rfl⟩)
               refine y (ev_move rfl) rfl ?_
               refine y (ev_extract rfl rfl) rfl ?_
               refine y (ev_extract rfl rfl) rfl ?_
               refine y (ev_assign rfl) rfl ?_
               refine y (ev_assign rfl) rfl ?_
               refine ynil' (kthn (hK141 _ _ ?_))
               clear hK141
               refine cseq ?_; intro K144 hK144
               refine creg ?_
               refine y (ev_move rfl) rfl ?_
               refine y (ev_move rfl) rfl ?_
               refine y (ev_move rfl) rfl ?_
               refine y (ev_move rfl) rfl ?_
               first | (refine ycall (qOpenOk hR1 ho1) rfl Tryz.call8 (by repeat first | exact .nil | exact .z | apply Pk.s | apply Tk.cons) rfl ?_; rintro v L' ⟨l57, c57, rfl, rfl⟩; have hSn := DdM.ok.two hR1 hl1 ho1 l49 c49 l57 c57) | (refine ycall (qOpenBad hR1 ho1) rfl Tryz.call8 (by repeat first | exact .nil | exact .z | apply Pk.s | apply Tk.cons) rfl ?_; rintro v L' ⟨rfl, rfl⟩; have hSn := DdM.ok.none' hR1 hl1)
               refine y (ev_move rfl) rfl ?_
               refine y (ev_extract rfl rfl) rfl ?_
               refine y (ev_extract rfl rfl) rfl ?_
               refine y (ev_assign rfl) rfl ?_
               refine y (ev_assign rfl) rfl ?_
               refine ynil' (kthn (hK144 _ _ ?_))
               clear hK144
               refine cseq ?_; intro K145 hK145
               refine creg ?_
               refine y (ev_move rfl) rfl ?_
               refine y (ev_move rfl) rfl ?_
               refine y (ev_neq rfl rfl) rfl ?_
               try rw [show (!decide (drlE D1 a b nb = drlE D1 a b nb)) = false by simp]
               refine y (ev_move rfl) rfl ?_
               refine yg1 rfl rfl ?_
               refine y (ev_move rfl) rfl ?_
               refine yg1 rfl rfl ?_
               refine y (ev_eqlPnil rfl rfl Tryz.underlying28) rfl ?_
               refine yg1 rfl rfl ?_
               refine y (ev_move rfl) rfl ?_
               refine yg1 rfl rfl ?_
               refine y (ev_eqlPnil rfl rfl Tryz.underlying32) rfl ?_
               refine yg1 rfl rfl ?_
               refine y (ev_neqB rfl rfl Tryz.underlying4) rfl ?_
               refine y (ev_pick0 rfl rfl) rfl ?_
               refine ynil' (kthn (hK145 _ _ ?_))
               clear hK145
               refine ccond0 rfl ?_
               refine cskip' (kbn (kthn ?_))
               exact ksub (by repeat first | exact sub_nil | refine sub_cons rfl ?_ | refine sub_cons' rfl (by simp) ?_) (by repeat first | exact .refl | exact .nil | exact .z | apply Pk.s | refine Ge.e ?_ | apply Ge.pick | apply Ge.drop) (hJr36 _ hSn)
             ·(try simp only [sH] at h973)
              refine cseq ?_; intro K146 hK146
              refine creg ?_
              refine y (ev_fieldAddr 0 rfl Tryz.underlying37 rfl Tryz.sizeOf3) rfl ?_
              refine y (ev_load rfl Tryz.isAgg3 (by repeat first | exact .z | apply In.s) rfl) rfl ?_
              refine y (ev_eql rfl rfl) rfl ?_
              refine y (ev_assign rfl) rfl ?_
              refine ynil' (kthn (hK146 _ _ ?_))
              clear hK146
              refine ccond rfl (fun h1043 => ?_) (fun h1043 => ?_)
              ·(try simp only [sH] at h1043)
               refine cseq ?_; intro K147 hK147
               refine creg ?_
               refine y (ev_move rfl) rfl ?_
               refine y (ev_fieldAddr 1 rfl Tryz.underlying37 rfl Tryz.sizeOf3) rfl ?_
               refine y (ev_load rfl Tryz.isAgg3 (by repeat first | exact .z | apply In.s) rfl) rfl ?_
               refine y (ev_fieldAddr 2 rfl Tryz.underlying37 rfl Tryz.sizeOf9) rfl ?_
               refine y (ev_load rfl Tryz.isAgg9 (by repeat first | exact .z | apply In.s) rfl) rfl ?_
               refine ya (ac_toBytesY rfl Tryz.underlying9 Tryz.underlying47 Tryz.underlying5) rfl ?_
               rintro v L' ⟨b176, c176, sp176, fr176, rfl, hc176, rfl⟩
               refine ycall (secWrite (bs := yy.s) ?ok1050 ?rd1050) rfl Tryz.call19 (by repeat first | exact .nil | exact .z | apply Pk.s | apply Tk.cons) rfl ?_
               case ok1050 => first | exact hS.r.ok | exact hS.r.rok
               case rd1050 => exact rdB_in (by repeat first | exact .z | apply In.s) rfl (by simp)
               rintro v L' ⟨rfl, rfl⟩
               refine ynil' (kthn (hK147 _ _ ?_))
               clear hK147
               refine creg ?_
               refine y (ev_move rfl) rfl ?_
               refine y (ev_fieldAddr 1 rfl Tryz.underlying37 rfl Tryz.sizeOf3) rfl ?_
               refine y (ev_load rfl Tryz.isAgg3 (by repeat first | exact .z | apply In.s) rfl) rfl ?_
               refine y (ev_fieldAddr 2 rfl Tryz.underlying37 rfl Tryz.sizeOf9) rfl ?_
               refine y (ev_load rfl Tryz.isAgg9 (by repeat first | exact .z | apply In.s) rfl) rfl ?_
               refine ya (ac_toBytesY rfl Tryz.underlying9 Tryz.underlying47 Tryz.underlying5) rfl ?_
               rintro v L' ⟨b183, c183, sp183, fr183, rfl, hc183, rfl⟩
               refine ycall (rdWrite (bs := yy.s) ?ok1057 ?rd1057) rfl Tryz.call20 (by repeat first | exact .nil | exact .z | apply Pk.s | apply Tk.cons) rfl ?_
               case ok1057 => first | exact hS.r.ok | exact hS.r.rok
               case rd1057 => exact rdB_in (by repeat first | exact .z | apply In.s) rfl (by simp)
               rintro v L' ⟨rfl, rfl⟩
               obtain ⟨e1, e2⟩ := hS.r.write yy.n yy.s
               have hSn := hS.dev e2 (show (D.write yy.n yy.s).2.l.length = n.toNat by rw [write_l]; exact hS.len)
               refine ynil' (kbn (kthn ?_))
               exact ksub (by repeat first | exact sub_nil | refine sub_cons rfl ?_ | refine sub_cons' rfl (by simp) ?_) (by repeat first | exact .refl | exact .nil | exact .z | apply Pk.s | refine Ge.e ?_ | apply Ge.pick | apply Ge.drop) (hJr36 _ hSn)
              ·(try simp only [sH] at h1043)
               have hSn := hS
               refine cskip' (kbn (kthn ?_))
               exact ksub (by repeat first | exact sub_nil | refine sub_cons rfl ?_ | refine sub_cons' rfl (by simp) ?_) (by repeat first | exact .refl | exact .nil | exact .z | apply Pk.s | refine Ge.e ?_ | apply Ge.pick | apply Ge.drop) (hJr36 _ hSn)
           ·(try simp only [sH] at h951)
            refine yg0 rfl rfl rfl rfl ?_
            refine yg0 rfl rfl rfl rfl ?_
            refine y (ev_pick0 rfl rfl) rfl ?_
            refine y (ev_assign rfl) rfl ?_
            refine ynil' (kthn (hK135 _ _ ?_))
            clear hK135
            refine ccond0 rfl ?_
            refine cseq ?_; intro K148 hK148
            refine creg ?_
            refine y (ev_fieldAddr 0 rfl Tryz.underlying37 rfl Tryz.sizeOf3) rfl ?_
            refine y (ev_load rfl Tryz.isAgg3 (by repeat first | exact .z | apply In.s) rfl) rfl ?_
            refine y (ev_eql rfl rfl) rfl ?_
            refine y (ev_assign rfl) rfl ?_
            refine ynil' (kthn (hK148 _ _ ?_))
            clear hK148
            refine ccond rfl (fun h1064 => ?_) (fun h1064 => ?_)
            ·(try simp only [sH] at h1064)
             refine cseq ?_; intro K149 hK149
             refine creg ?_
             refine y (ev_move rfl) rfl ?_
             refine y (ev_fieldAddr 1 rfl Tryz.underlying37 rfl Tryz.sizeOf3) rfl ?_
             refine y (ev_load rfl Tryz.isAgg3 (by repeat first | exact .z | apply In.s) rfl) rfl ?_
             refine ycall (secFuse) rfl Tryz.call14 (by repeat first | exact .nil | exact .z | apply Pk.s | apply Tk.cons) rfl ?_
             rintro v L' ⟨rfl, rfl⟩
             refine ynil' (kthn (hK149 _ _ ?_))
             clear hK149
             refine creg ?_
             refine y (ev_move rfl) rfl ?_
             refine y (ev_fieldAddr 1 rfl Tryz.underlying37 rfl Tryz.sizeOf3) rfl ?_
             refine y (ev_load rfl Tryz.isAgg3 (by repeat first | exact .z | apply In.s) rfl) rfl ?_
             refine ycall (rdFuse) rfl Tryz.call15 (by repeat first | exact .nil | exact .z | apply Pk.s | apply Tk.cons) rfl ?_
             rintro v L' ⟨rfl, rfl⟩
             have hSn := hS.dev (hS.r.setFuse hact.n.2) (show (D.setFuse yy.n).l.length = n.toNat from hS.len)
             refine ynil' (kbn (kthn ?_))
             exact ksub (by repeat first | exact sub_nil | refine sub_cons rfl ?_ | refine sub_cons' rfl (by simp) ?_) (by repeat first | exact .refl | exact .nil | exact .z | apply Pk.s | refine Ge.e ?_ | apply Ge.pick | apply Ge.drop) (hJr36 _ hSn)
            ·(try simp only [sH] at h1064)
             refine cseq ?_; intro K150 hK150
             refine creg ?_
             refine y (ev_fieldAddr 0 rfl Tryz.underlying37 rfl Tryz.sizeOf3) rfl ?_
             refine y (ev_load rfl Tryz.isAgg3 (by repeat first | exact .z | apply In.s) rfl) rfl ?_
             refine y (ev_eql rfl rfl) rfl ?_
             refine y (ev_assign rfl) rfl ?_
             refine ynil' (kthn (hK150 _ _ ?_))
             clear hK150
             refine ccond rfl (fun h1077 => ?_) (fun h1077 => ?_)
             ·(try simp only [sH] at h1077)
              refine cseq ?_; intro K151 hK151
              refine creg ?_
              refine y (ev_move rfl) rfl ?_
              refine y (ev_fieldAddr 3 rfl Tryz.underlying37 rfl Tryz.sizeOf35) rfl ?_
              refine y (ev_load rfl Tryz.isAgg35 (by repeat first | exact .z | apply In.s) rfl) rfl ?_
              refine ycall (secCrash (ks := yy.ks) ?ok1081 ?ks1081) rfl Tryz.call16 (by repeat first | exact .nil | exact .z | apply Pk.s | apply Tk.cons) rfl ?_
              case ok1081 => first | exact hS.r.ok | exact hS.r.rok
              case ks1081 => exact hact.keeps.mono (by repeat first | exact .refl | exact .nil | exact .z | apply Pk.s | refine Ge.e ?_ | apply Ge.pick | apply Ge.drop)
              rintro v L' ⟨rfl, rfl⟩
              refine ynil' (kthn (hK151 _ _ ?_))
              clear hK151
              refine cseq ?_; intro K152 hK152
              refine creg ?_
              refine y (ev_move rfl) rfl ?_
              refine y (ev_fieldAddr 3 rfl Tryz.underlying37 rfl Tryz.sizeOf35) rfl ?_
              refine y (ev_load rfl Tryz.isAgg35 (by repeat first | exact .z | apply In.s) rfl) rfl ?_
              refine ycall (nKeeps8 (ks := yy.ks) ?ks1085 ?six1085) rfl Tryz.call18 (by repeat first | exact .nil | exact .z | apply Pk.s | apply Tk.cons) rfl ?_
              case ks1085 => exact hact.keeps.mono (by repeat first | exact .refl | exact .nil | exact .z | apply Pk.s | refine Ge.e ?_ | apply Ge.pick | apply Ge.drop)
              case six1085 => omega
              rintro v L' ⟨s139, rfl, ok139, rfl⟩
              refine ycall (rdCrash (ks := yy.ks) ?ok1086 ?ks1086) rfl Tryz.call17 (by repeat first | exact .nil | exact .z | apply Pk.s | apply Tk.cons) rfl ?_
              case ok1086 => first | exact hS.r.ok | exact hS.r.rok
              case ks1086 => exact rdV_sv (by repeat first | exact .z | apply In.s) ok139
              rintro v L' ⟨rfl, rfl⟩
              refine ynil' (kthn (hK152 _ _ ?_))
              clear hK152
              refine cseq ?_; intro K153 hK153
              refine creg ?_
              have hR1 := hS.r.crash yy.ks
              have hl1 : (D.crash yy.ks).l.length = n.toNat := by rw [← hS.len]; simp [Dev.crash, crashL_length]
              generalize D.crash yy.ks = D1 at *
              generalize E.crash yy.ks = E1 at *
              refine y (ev_move rfl) rfl ?_
              refine y (ev_move rfl) rfl ?_
              refine y (ev_move rfl) rfl ?_
              refine y (ev_move rfl) rfl ?_
              by_cases ho1 : drlE D1 a b nb = 0
              ·skip
               first | (refine ycall (dOpenOk hR1.ok ho1) rfl Tryz.call7 (by repeat first | exact .nil | exact .z | apply Pk.s | apply Tk.cons) rfl ?_; rintro v L' ⟨l49, c49, rfl, rfl⟩) | (refine ycall (dOpenBad hR1.ok rfl ho1) rfl Tryz.call7 (by repeat first | exact .nil | exact .z | apply Pk.s | apply Tk.cons) rfl ?_; rintro v L' ⟨rfl, rfl⟩)
               refine y (ev_move rfl) rfl ?_
               refine y (ev_extract rfl rfl) rfl ?_
               refine y (ev_extract rfl rfl) rfl ?_
               refine y (ev_assign rfl) rfl ?_
               refine y (ev_assign rfl) rfl ?_
               refine ynil' (kthn (hK153 _ _ ?_))
               clear hK153
               refine cseq ?_; intro K154 hK154
               refine creg ?_
               refine y (ev_move rfl) rfl ?_
               refine y (ev_move rfl) rfl ?_
               refine y (ev_move rfl) rfl ?_
               refine y (ev_move rfl) rfl ?_
               first | (refine ycall (qOpenOk hR1 ho1) rfl Tryz.call8 (by repeat first | exact .nil | exact .z | apply Pk.s | apply Tk.cons) rfl ?_; rintro v L' ⟨l57, c57, rfl, rfl⟩; have hSn := DdM.ok.two hR1 hl1 ho1 l49 c49 l57 c57) | (refine ycall (qOpenBad hR1 ho1) rfl Tryz.call8 (by repeat first | exact .nil | exact .z | apply Pk.s | apply Tk.cons) rfl ?_; rintro v L' ⟨rfl, rfl⟩; have hSn := DdM.ok.none' hR1 hl1)
               refine y (ev_move rfl) rfl ?_
               refine y (ev_extract rfl rfl) rfl ?_
               refine y (ev_extract rfl rfl) rfl ?_
               refine y (ev_assign rfl) rfl ?_
               refine y (ev_assign rfl) rfl ?_
               refine ynil' (kthn (hK154 _ _ ?_))
               clear hK154
               refine cseq ?_; intro K155 hK155
               refine creg ?_
               refine y (ev_move rfl) rfl ?_
               refine y (ev_move rfl) rfl ?_
               refine y (ev_neq rfl rfl) rfl ?_
               try rw [show (!decide (drlE D1 a b nb = drlE D1 a b nb)) = false by simp]
               refine y (ev_move rfl) rfl ?_
               refine yg1 rfl rfl ?_
               refine y (ev_move rfl) rfl ?_
               refine yg1 rfl rfl ?_
               refine y (ev_eqlPnil rfl rfl Tryz.underlying28) rfl ?_
               refine yg1 rfl rfl ?_
               refine y (ev_move rfl) rfl ?_
               refine yg1 rfl rfl ?_
               refine y (ev_eqlPnil rfl rfl Tryz.underlying32) rfl ?_
               refine yg1 rfl rfl ?_
               refine y (ev_neqB rfl rfl Tryz.underlying4) rfl ?_
               refine y (ev_pick0 rfl rfl) rfl ?_
               refine ynil' (kthn (hK155 _ _ ?_))
               clear hK155
               refine ccond0 rfl ?_
               refine cskip' (kbn (kthn ?_))
               exact ksub (by repeat first | exact sub_nil | refine sub_cons rfl ?_ | refine sub_cons' rfl (by simp) ?_) (by repeat first | exact .refl | exact .nil | exact .z | apply Pk.s | refine Ge.e ?_ | apply Ge.pick | apply Ge.drop) (hJr36 _ hSn)
              ·skip
               first | (refine ycall (dOpenOk hR1.ok ho1) rfl Tryz.call7 (by repeat first | exact .nil | exact .z | apply Pk.s | apply Tk.cons) rfl ?_; rintro v L' ⟨l49, c49, rfl, rfl⟩) | (refine ycall (dOpenBad hR1.ok rfl ho1) rfl Tryz.call7 (by repeat first | exact .nil | exact .z | apply Pk.s | apply Tk.cons) rfl ?_; rintro v L' ⟨rfl, rfl⟩)
               refine y (ev_move rfl) rfl ?_
               refine y (ev_extract rfl rfl) rfl ?_
               refine y (ev_extract rfl rfl) rfl ?_
               refine y (ev_assign rfl) rfl ?_
               refine y (ev_assign rfl) rfl ?_
               refine ynil' (kthn (hK153 _ _ ?_))
               clear hK153
               refine cseq ?_; intro K156 hK156
               refine creg ?_
               refine y (ev_move rfl) rfl ?_
               refine y (ev_move rfl) rfl ?_
               refine y (ev_move rfl) rfl ?_
               refine y (ev_move rfl) rfl ?_
               first | (refine ycall (qOpenOk hR1 ho1) rfl Tryz.call8 (by repeat first | exact .nil | exact .z | apply Pk.s | apply Tk.cons) rfl ?_; rintro v L' ⟨l57, c57, rfl, rfl⟩; have hSn := DdM.ok.two hR1 hl1 ho1 l49 c49 l57 c57) | (refine ycall (qOpenBad hR1 ho1) rfl Tryz.call8 (by repeat first | exact .nil | exact .z | apply Pk.s | apply Tk.cons) rfl ?_; rintro v L' ⟨rfl, rfl⟩; have hSn := DdM.ok.none' hR1 hl1)
               refine y (ev_move rfl) rfl ?_
               refine y (ev_extract rfl rfl) rfl ?_
               refine y (ev_extract rfl rfl) rfl ?_
               refine y (ev_assign rfl) rfl ?_
               refine y (ev_assign rfl) rfl ?_
               refine ynil' (kthn (hK156 _ _ ?_))
               clear hK156
               refine cseq ?_; intro K157 hK157
               refine creg ?_
               refine y (ev_move rfl) rfl ?_
               refine y (ev_move rfl) rfl ?_
               refine y (ev_neq rfl rfl) rfl ?_
               try rw [show (!decide (drlE D1 a b nb = drlE D1 a b nb)) = false by simp]
               refine y (ev_move rfl) rfl ?_
               refine yg1 rfl rfl ?_
               refine y (ev_move rfl) rfl ?_
               refine yg1 rfl rfl ?_
               refine y (ev_eqlPnil rfl rfl Tryz.underlying28) rfl ?_
               refine yg1 rfl rfl ?_
               refine y (ev_move rfl) rfl ?_
               refine yg1 rfl rfl ?_
               refine y (ev_eqlPnil rfl rfl Tryz.underlying32) rfl ?_
               refine yg1 rfl rfl ?_
               refine y (ev_neqB rfl rfl Tryz.underlying4) rfl ?_
               refine y (ev_pick0 rfl rfl) rfl ?_
               refine ynil' (kthn (hK157 _ _ ?_))
               clear hK157
               refine ccond0 rfl ?_
               refine cskip' (kbn (kthn ?_))
               exact ksub (by repeat first | exact sub_nil | refine sub_cons rfl ?_ | refine sub_cons' rfl (by simp) ?_) (by repeat first | exact .refl | exact .nil | exact .z | apply Pk.s | refine Ge.e ?_ | apply Ge.pick | apply Ge.drop) (hJr36 _ hSn)
             ·(try simp only [sH] at h1077)
              refine cseq ?_; intro K158 hK158
              refine creg ?_
              refine y (ev_fieldAddr 0 rfl Tryz.underlying37 rfl Tryz.sizeOf3) rfl ?_
              refine y (ev_load rfl Tryz.isAgg3 (by repeat first | exact .z | apply In.s) rfl) rfl ?_
              refine y (ev_eql rfl rfl) rfl ?_
              refine y (ev_assign rfl) rfl ?_
              refine ynil' (kthn (hK158 _ _ ?_))
              clear hK158
              refine ccond rfl (fun h1147 => ?_) (fun h1147 => ?_)
              ·(try simp only [sH] at h1147)
               refine cseq ?_; intro K159 hK159
               refine creg ?_
               refine y (ev_move rfl) rfl ?_
               refine y (ev_fieldAddr 1 rfl Tryz.underlying37 rfl Tryz.sizeOf3) rfl ?_
               refine y (ev_load rfl Tryz.isAgg3 (by repeat first | exact .z | apply In.s) rfl) rfl ?_
               refine y (ev_fieldAddr 2 rfl Tryz.underlying37 rfl Tryz.sizeOf9) rfl ?_
               refine y (ev_load rfl Tryz.isAgg9 (by repeat first | exact .z | apply In.s) rfl) rfl ?_
               refine ya (ac_toBytesY rfl Tryz.underlying9 Tryz.underlying47 Tryz.underlying5) rfl ?_
               rintro v L' ⟨b176, c176, sp176, fr176, rfl, hc176, rfl⟩
               refine ycall (secWrite (bs := yy.s) ?ok1154 ?rd1154) rfl Tryz.call19 (by repeat first | exact .nil | exact .z | apply Pk.s | apply Tk.cons) rfl ?_
               case ok1154 => first | exact hS.r.ok | exact hS.r.rok
               case rd1154 => exact rdB_in (by repeat first | exact .z | apply In.s) rfl (by simp)
               rintro v L' ⟨rfl, rfl⟩
               refine ynil' (kthn (hK159 _ _ ?_))
               clear hK159
               refine creg ?_
               refine y (ev_move rfl) rfl ?_
               refine y (ev_fieldAddr 1 rfl Tryz.underlying37 rfl Tryz.sizeOf3) rfl ?_
               refine y (ev_load rfl Tryz.isAgg3 (by repeat first | exact .z | apply In.s) rfl) rfl ?_
               refine y (ev_fieldAddr 2 rfl Tryz.underlying37 rfl Tryz.sizeOf9) rfl ?_
               refine y (ev_load rfl Tryz.isAgg9 (by repeat first | exact .z | apply In.s) rfl) rfl ?_
               refine ya (ac_toBytesY rfl Tryz.underlying9 Tryz.underlying47 Tryz.underlying5) rfl ?_
               rintro v L' ⟨b183, c183, sp183, fr183, rfl, hc183, rfl⟩
               refine ycall (rdWrite (bs := yy.s) ?ok1161 ?rd1161) rfl Tryz.call20 (by repeat first | exact .nil | exact .z | apply Pk.s | apply Tk.cons) rfl ?_
               case ok1161 => first | exact hS.r.ok | exact hS.r.rok
               case rd1161 => exact rdB_in (by repeat first | exact .z | apply In.s) rfl (by simp)
               rintro v L' ⟨rfl, rfl⟩
               obtain ⟨e1, e2⟩ := hS.r.write yy.n yy.s
               have hSn := hS.dev e2 (show (D.write yy.n yy.s).2.l.length = n.toNat by rw [write_l]; exact hS.len)
               refine ynil' (kbn (kthn ?_))
               exact ksub (by repeat first | exact sub_nil | refine sub_cons rfl ?_ | refine sub_cons' rfl (by simp) ?_) (by repeat first | exact .refl | exact .nil | exact .z | apply Pk.s | refine Ge.e ?_ | apply Ge.pick | apply Ge.drop) (hJr36 _ hSn)
              ·(try simp only [sH] at h1147)
               have hSn := hS
               refine cskip' (kbn (kthn ?_))
               exact ksub (by repeat first | exact sub_nil | refine sub_cons rfl ?_ | refine sub_cons' rfl (by simp) ?_) (by repeat first | exact .refl | exact .nil | exact .z | apply Pk.s | refine Ge.e ?_ | apply Ge.pick | apply Ge.drop) (hJr36 _ hSn)
          ·(try simp only [sH] at h942)
           refine yg0 rfl rfl rfl rfl ?_
           refine yg0 rfl rfl rfl rfl ?_
           refine y (ev_pick0 rfl rfl) rfl ?_
           refine y (ev_assign rfl) rfl ?_
           refine ynil' (kthn (hK134 _ _ ?_))
           clear hK134
           refine ccond0 rfl ?_
           refine cseq ?_; intro K160 hK160
           refine creg ?_
           refine y (ev_fieldAddr 0 rfl Tryz.underlying37 rfl Tryz.sizeOf3) rfl ?_
           refine y (ev_load rfl Tryz.isAgg3 (by repeat first | exact .z | apply In.s) rfl) rfl ?_
           refine y (ev_eql rfl rfl) rfl ?_
           refine y (ev_move rfl) rfl ?_
           refine ysplit 107 rfl (fun h1168 => ?_) (fun h1168 => ?_)
           ·(try simp only [sH] at h1168)
            refine yg1 rfl rfl ?_
            refine y (ev_move rfl) rfl ?_
            refine yg1 rfl rfl ?_
            refine y (ev_neqPnil rfl rfl Tryz.underlying28) rfl ?_
            refine y (ev_pick1 rfl rfl) rfl ?_
            refine y (ev_assign rfl) rfl ?_
            refine ynil' (kthn (hK160 _ _ ?_))
            clear hK160
            refine ccond0 rfl ?_
            refine cseq ?_; intro K161 hK161
            refine creg ?_
            refine y (ev_fieldAddr 0 rfl Tryz.underlying37 rfl Tryz.sizeOf3) rfl ?_
            refine y (ev_load rfl Tryz.isAgg3 (by repeat first | exact .z | apply In.s) rfl) rfl ?_
            refine y (ev_eql rfl rfl) rfl ?_
            refine y (ev_assign rfl) rfl ?_
            refine ynil' (kthn (hK161 _ _ ?_))
            clear hK161
            refine ccond rfl (fun h1177 => ?_) (fun h1177 => ?_)
            ·(try simp only [sH] at h1177)
             refine cseq ?_; intro K162 hK162
             refine creg ?_
             refine y (ev_move rfl) rfl ?_
             refine y (ev_fieldAddr 1 rfl Tryz.underlying37 rfl Tryz.sizeOf3) rfl ?_
             refine y (ev_load rfl Tryz.isAgg3 (by repeat first | exact .z | apply In.s) rfl) rfl ?_
             refine ycall (secFuse) rfl Tryz.call14 (by repeat first | exact .nil | exact .z | apply Pk.s | apply Tk.cons) rfl ?_
             rintro v L' ⟨rfl, rfl⟩
             refine ynil' (kthn (hK162 _ _ ?_))
             clear hK162
             refine creg ?_
             refine y (ev_move rfl) rfl ?_
             refine y (ev_fieldAddr 1 rfl Tryz.underlying37 rfl Tryz.sizeOf3) rfl ?_
             refine y (ev_load rfl Tryz.isAgg3 (by repeat first | exact .z | apply In.s) rfl) rfl ?_
             refine ycall (rdFuse) rfl Tryz.call15 (by repeat first | exact .nil | exact .z | apply Pk.s | apply Tk.cons) rfl ?_
             rintro v L' ⟨rfl, rfl⟩
             have hSn := hS.dev (hS.r.setFuse hact.n.2) (show (D.setFuse yy.n).l.length = n.toNat from hS.len)
             refine ynil' (kbn (kthn ?_))
             exact ksub (by repeat first | exact sub_nil | refine sub_cons rfl ?_ | refine sub_cons' rfl (by simp) ?_) (by repeat first | exact .refl | exact .nil | exact .z | apply Pk.s | refine Ge.e ?_ | apply Ge.pick | apply Ge.drop) (hJr36 _ hSn)
            ·(try simp only [sH] at h1177)
             refine cseq ?_; intro K163 hK163
             refine creg ?_
             refine y (ev_fieldAddr 0 rfl Tryz.underlying37 rfl Tryz.sizeOf3) rfl ?_
             refine y (ev_load rfl Tryz.isAgg3 (by repeat first | exact .z | apply In.s) rfl) rfl ?_
             refine y (ev_eql rfl rfl) rfl ?_
             refine y (ev_assign rfl) rfl ?_
             refine ynil' (kthn (hK163 _ _ ?_))
             clear hK163
             refine ccond rfl (fun h1190 => ?_) (fun h1190 => ?_)
             ·(try simp only [sH] at h1190)
              refine cseq ?_; intro K164 hK164
              refine creg ?_
              refine y (ev_move rfl) rfl ?_
              refine y (ev_fieldAddr 3 rfl Tryz.underlying37 rfl Tryz.sizeOf35) rfl ?_
              refine y (ev_load rfl Tryz.isAgg35 (by repeat first | exact .z | apply In.s) rfl) rfl ?_
              refine ycall (secCrash (ks := yy.ks) ?ok1194 ?ks1194) rfl Tryz.call16 (by repeat first | exact .nil | exact .z | apply Pk.s | apply Tk.cons) rfl ?_
              case ok1194 => first | exact hS.r.ok | exact hS.r.rok
              case ks1194 => exact hact.keeps.mono (by repeat first | exact .refl | exact .nil | exact .z | apply Pk.s | refine Ge.e ?_ | apply Ge.pick | apply Ge.drop)
              rintro v L' ⟨rfl, rfl⟩
              refine ynil' (kthn (hK164 _ _ ?_))
              clear hK164
              refine cseq ?_; intro K165 hK165
              refine creg ?_
              refine y (ev_move rfl) rfl ?_
              refine y (ev_fieldAddr 3 rfl Tryz.underlying37 rfl Tryz.sizeOf35) rfl ?_
              refine y (ev_load rfl Tryz.isAgg35 (by repeat first | exact .z | apply In.s) rfl) rfl ?_
              refine ycall (nKeeps8 (ks := yy.ks) ?ks1198 ?six1198) rfl Tryz.call18 (by repeat first | exact .nil | exact .z | apply Pk.s | apply Tk.cons) rfl ?_
              case ks1198 => exact hact.keeps.mono (by repeat first | exact .refl | exact .nil | exact .z | apply Pk.s | refine Ge.e ?_ | apply Ge.pick | apply Ge.drop)
              case six1198 => omega
              rintro v L' ⟨s139, rfl, ok139, rfl⟩
              refine ycall (rdCrash (ks := yy.ks) ?ok1199 ?ks1199) rfl Tryz.call17 (by repeat first | exact .nil | exact .z | apply Pk.s | apply Tk.cons) rfl ?_
              case ok1199 => first | exact hS.r.ok | exact hS.r.rok
              case ks1199 => exact rdV_sv (by repeat first | exact .z | apply In.s) ok139
              rintro v L' ⟨rfl, rfl⟩
              refine ynil' (kthn (hK165 _ _ ?_))
              clear hK165
              refine cseq ?_; intro K166 hK166
              refine creg ?_
              have hR1 := hS.r.crash yy.ks
              have hl1 : (D.crash yy.ks).l.length = n.toNat := by rw [← hS.len]; simp [Dev.crash, crashL_length]
              generalize D.crash yy.ks = D1 at *
              generalize E.crash yy.ks = E1 at *
              refine y (ev_move rfl) rfl ?_
              refine y (ev_move rfl) rfl ?_
              refine y (ev_move rfl) rfl ?_
              refine y (ev_move rfl) rfl ?_
              by_cases ho1 : drlE D1 a b nb = 0
              ·skip
               first | (refine ycall (dOpenOk hR1.ok ho1) rfl Tryz.call7 (by repeat first | exact .nil | exact .z | apply Pk.s | apply Tk.cons) rfl ?_; rintro v L' ⟨l49, c49, rfl, rfl⟩) | (refine ycall (dOpenBad hR1.ok rfl ho1) rfl Tryz.call7 (by repeat first | exact .nil | exact .z | apply Pk.s | apply Tk.cons) rfl ?_; rintro v L' ⟨rfl, rfl⟩)
               refine y (ev_move rfl) rfl ?_
               refine y (ev_extract rfl rfl) rfl ?_
               refine y (ev_extract rfl rfl) rfl ?_
               refine y (ev_assign rfl) rfl ?_
               refine y (ev_assign rfl) rfl ?_
               refine ynil' (kthn (hK166 _ _ ?_))
               clear hK166
               refine cseq ?_; intro K167 hK167
               refine creg ?_
               refine y (ev_move rfl) rfl ?_
               refine y (ev_move rfl) rfl ?_
               refine y (ev_move rfl) rfl ?_
               refine y (ev_move rfl) rfl ?_
               first | (refine ycall (qOpenOk hR1 ho1) rfl Tryz.call8 (by repeat first | exact .nil | exact .z | apply Pk.s | apply Tk.cons) rfl ?_; rintro v L' ⟨l57, c57, rfl, rfl⟩; have hSn := DdM.ok.two hR1 hl1 ho1 l49 c49 l57 c57) | (refine ycall (qOpenBad hR1 ho1) rfl Tryz.call8 (by repeat first | exact .nil | exact .z | apply Pk.s | apply Tk.cons) rfl ?_; rintro v L' ⟨rfl, rfl⟩; have hSn := DdM.ok.none' hR1 hl1)
               refine y (ev_move rfl) rfl ?_
               refine y (ev_extract rfl rfl) rfl ?_
               refine y (ev_extract rfl rfl) rfl ?_
               refine y (ev_assign rfl) rfl ?_
               refine y (ev_assign rfl) rfl ?_
               refine ynil' (kthn (hK167 _ _ ?_))
               clear hK167
               refine cseq ?_; intro K168 hK168
               refine creg ?_
               refine y (ev_move rfl) rfl ?_
               refine y (ev_move rfl) rfl ?_
               refine y (ev_neq rfl rfl) rfl ?_
               try rw [show (!decide (drlE D1 a b nb = drlE D1 a b nb)) = false by simp]
               refine y (ev_move rfl) rfl ?_
               refine yg1 rfl rfl ?_
               refine y (ev_move rfl) rfl ?_
               refine yg1 rfl rfl ?_
               refine y (ev_eqlPnil rfl rfl Tryz.underlying28) rfl ?_
               refine yg1 rfl rfl ?_
               refine y (ev_move rfl) rfl ?_
               refine yg1 rfl rfl ?_
               refine y (ev_eqlPnil rfl rfl Tryz.underlying32) rfl ?_
               refine yg1 rfl rfl ?_
               refine y (ev_neqB rfl rfl Tryz.underlying4) rfl ?_
               refine y (ev_pick0 rfl rfl) rfl ?_
               refine ynil' (kthn (hK168 _ _ ?_))
               clear hK168
               refine ccond0 rfl ?_
               refine cskip' (kbn (kthn ?_))
               exact ksub (by repeat first | exact sub_nil | refine sub_cons rfl ?_ | refine sub_cons' rfl (by simp) ?_) (by repeat first | exact .refl | exact .nil | exact .z | apply Pk.s | refine Ge.e ?_ | apply Ge.pick | apply Ge.drop) (hJr36 _ hSn)
              ·skip
               first | (refine ycall (dOpenOk hR1.ok ho1) rfl Tryz.call7 (by repeat first | exact .nil | exact .z | apply Pk.s | apply Tk.cons) rfl ?_; rintro v L' ⟨l49, c49, rfl, rfl⟩) | (refine ycall (dOpenBad hR1.ok rfl ho1) rfl Tryz.call7 (by repeat first | exact .nil | exact .z | apply Pk.s | apply Tk.cons) rfl ?_; rintro v L' ⟨rfl, rfl⟩)
               refine y (ev_move rfl) rfl ?_
               refine y (ev_extract rfl rfl) rfl ?_
               refine y (ev_extract rfl rfl) rfl ?_
               refine y (ev_assign rfl) rfl ?_
               refine y (ev_assign rfl) rfl ?_
               refine ynil' (kthn (hK166 _ _ ?_))
               clear hK166
               refine cseq ?_; intro K169 hK169
               refine creg ?_
               refine y (ev_move rfl) rfl ?_
               refine y (ev_move rfl) rfl ?_
               refine y (ev_move rfl) rfl ?_
               refine y (ev_move rfl) rfl ?_
               first | (refine ycall (qOpenOk hR1 ho1) rfl Tryz.call8 (by repeat first | exact .nil | exact .z | apply Pk.s | apply Tk.cons) rfl ?_; rintro v L' ⟨l57, c57, rfl, rfl⟩; have hSn := DdM.ok.two hR1 hl1 ho1 l49 c49 l57 c57) | (refine ycall (qOpenBad hR1 ho1) rfl Tryz.call8 (by repeat first | exact .nil | exact .z | apply Pk.s | apply Tk.cons) rfl ?_; rintro v L' ⟨rfl, rfl⟩; have hSn := DdM.ok.none' hR1 hl1)
               refine y (ev_move rfl) rfl ?_
               refine y (ev_extract rfl rfl) rfl ?_
               refine y (ev_extract rfl rfl) rfl ?_
               refine y (ev_assign rfl) rfl ?_
               refine y (ev_assign rfl) rfl ?_
               refine ynil' (kthn (hK169 _ _ ?_))
               clear hK169
               refine cseq ?_; intro K170 hK170
               refine creg ?_
               refine y (ev_move rfl) rfl ?_
               refine y (ev_move rfl) rfl ?_
               refine y (ev_neq rfl rfl) rfl ?_
               try rw [show (!decide (drlE D1 a b nb = drlE D1 a b nb)) = false by simp]
               refine y (ev_move rfl) rfl ?_
               refine yg1 rfl rfl ?_
               refine y (ev_move rfl) rfl ?_
               refine yg1 rfl rfl ?_
               refine y (ev_eqlPnil rfl rfl Tryz.underlying28) rfl ?_
               refine yg1 rfl rfl ?_
               refine y (ev_move rfl) rfl ?_
               refine yg1 rfl rfl ?_
               refine y (ev_eqlPnil rfl rfl Tryz.underlying32) rfl ?_
               refine yg1 rfl rfl ?_
               refine y (ev_neqB rfl rfl Tryz.underlying4) rfl ?_
               refine y (ev_pick0 rfl rfl) rfl ?_
               refine ynil' (kthn (hK170 _ _ ?_))
               clear hK170
               refine ccond0 rfl ?_
               refine cskip' (kbn (kthn ?_))
               exact ksub (by repeat first | exact sub_nil | refine sub_cons rfl ?_ | refine sub_cons' rfl (by simp) ?_) (by repeat first | exact .refl | exact .nil | exact .z | apply Pk.s | refine Ge.e ?_ | apply Ge.pick | apply Ge.drop) (hJr36 _ hSn)
             ·(try simp only [sH] at h1190)
              refine cseq ?_; intro K171 hK171
              refine creg ?_
              refine y (ev_fieldAddr 0 rfl Tryz.underlying37 rfl Tryz.sizeOf3) rfl ?_
              refine y (ev_load rfl Tryz.isAgg3 (by repeat first | exact .z | apply In.s) rfl) rfl ?_
              refine y (ev_eql rfl rfl) rfl ?_
              refine y (ev_assign rfl) rfl ?_
              refine ynil' (kthn (hK171 _ _ ?_))
              clear hK171
              refine ccond rfl (fun h1260 => ?_) (fun h1260 => ?_)
              ·(try simp only [sH] at h1260)
               refine cseq ?_; intro K172 hK172
               refine creg ?_
               refine y (ev_move rfl) rfl ?_
               refine y (ev_fieldAddr 1 rfl Tryz.underlying37 rfl Tryz.sizeOf3) rfl ?_
               refine y (ev_load rfl Tryz.isAgg3 (by repeat first | exact .z | apply In.s) rfl) rfl ?_
               refine y (ev_fieldAddr 2 rfl Tryz.underlying37 rfl Tryz.sizeOf9) rfl ?_
               refine y (ev_load rfl Tryz.isAgg9 (by repeat first | exact .z | apply In.s) rfl) rfl ?_
               refine ya (ac_toBytesY rfl Tryz.underlying9 Tryz.underlying47 Tryz.underlying5) rfl ?_
               rintro v L' ⟨b176, c176, sp176, fr176, rfl, hc176, rfl⟩
               refine ycall (secWrite (bs := yy.s) ?ok1267 ?rd1267) rfl Tryz.call19 (by repeat first | exact .nil | exact .z | apply Pk.s | apply Tk.cons) rfl ?_
               case ok1267 => first | exact hS.r.ok | exact hS.r.rok
               case rd1267 => exact rdB_in (by repeat first | exact .z | apply In.s) rfl (by simp)
               rintro v L' ⟨rfl, rfl⟩
               refine ynil' (kthn (hK172 _ _ ?_))
               clear hK172
               refine creg ?_
               refine y (ev_move rfl) rfl ?_
               refine y (ev_fieldAddr 1 rfl Tryz.underlying37 rfl Tryz.sizeOf3) rfl ?_
               refine y (ev_load rfl Tryz.isAgg3 (by repeat first | exact .z | apply In.s) rfl) rfl ?_
               refine y (ev_fieldAddr 2 rfl Tryz.underlying37 rfl Tryz.sizeOf9) rfl ?_
               refine y (ev_load rfl Tryz.isAgg9 (by repeat first | exact .z | apply In.s) rfl) rfl ?_
               refine ya (ac_toBytesY rfl Tryz.underlying9 Tryz.underlying47 Tryz.underlying5) rfl ?_
               rintro v L' ⟨b183, c183, sp183, fr183, rfl, hc183, rfl⟩
               refine ycall (rdWrite (bs := yy.s) ?ok1274 ?rd1274) rfl Tryz.call20 (by repeat first | exact .nil | exact .z | apply Pk.s | apply Tk.cons) rfl ?_
               case ok1274 => first | exact hS.r.ok | exact hS.r.rok
               case rd1274 => exact rdB_in (by repeat first | exact .z | apply In.s) rfl (by simp)
               rintro v L' ⟨rfl, rfl⟩
               obtain ⟨e1, e2⟩ := hS.r.write yy.n yy.s
               have hSn := hS.dev e2 (show (D.write yy.n yy.s).2.l.length = n.toNat by rw [write_l]; exact hS.len)
               refine ynil' (kbn (kthn ?_))
               exact ksub (by repeat first | exact sub_nil | refine sub_cons rfl ?_ | refine sub_cons' rfl (by simp) ?_) (by repeat first | exact .refl | exact .nil | exact .z | apply Pk.s | refine Ge.e ?_ | apply Ge.pick | apply Ge.drop) (hJr36 _ hSn)
              ·(try simp only [sH] at h1260)
               have hSn := hS
               refine cskip' (kbn (kthn ?_))
               exact ksub (by repeat first | exact sub_nil | refine sub_cons rfl ?_ | refine sub_cons' rfl (by simp) ?_) (by repeat first | exact .refl | exact .nil | exact .z | apply Pk.s | refine Ge.e ?_ | apply Ge.pick | apply Ge.drop) (hJr36 _ hSn)
           ·(try simp only [sH] at h1168)
            refine yg0 rfl rfl rfl rfl ?_
            refine yg0 rfl rfl rfl rfl ?_
            refine y (ev_pick0 rfl rfl) rfl ?_
            refine y (ev_assign rfl) rfl ?_
            refine ynil' (kthn (hK160 _ _ ?_))
            clear hK160
            refine ccond0 rfl ?_
            refine cseq ?_; intro K173 hK173
            refine creg ?_
            refine y (ev_fieldAddr 0 rfl Tryz.underlying37 rfl Tryz.sizeOf3) rfl ?_
            refine y (ev_load rfl Tryz.isAgg3 (by repeat first | exact .z | apply In.s) rfl) rfl ?_
            refine y (ev_eql rfl rfl) rfl ?_
            refine y (ev_assign rfl) rfl ?_
            refine ynil' (kthn (hK173 _ _ ?_))
            clear hK173
            refine ccond rfl (fun h1281 => ?_) (fun h1281 => ?_)
            ·(try simp only [sH] at h1281)
             refine cseq ?_; intro K174 hK174
             refine creg ?_
             refine y (ev_move rfl) rfl ?_
             refine y (ev_fieldAddr 1 rfl Tryz.underlying37 rfl Tryz.sizeOf3) rfl ?_
             refine y (ev_load rfl Tryz.isAgg3 (by repeat first | exact .z | apply In.s) rfl) rfl ?_
             refine ycall (secFuse) rfl Tryz.call14 (by repeat first | exact .nil | exact .z | apply Pk.s | apply Tk.cons) rfl ?_
             rintro v L' ⟨rfl, rfl⟩
             refine ynil' (kthn (hK174 _ _ ?_))
             clear hK174
             refine creg ?_
             refine y (ev_move rfl) rfl ?_
             refine y (ev_fieldAddr 1 rfl Tryz.underlying37 rfl Tryz.sizeOf3) rfl ?_
             refine y (ev_load rfl Tryz.isAgg3 (by repeat first | exact .z | apply In.s) rfl) rfl ?_
             refine ycall (rdFuse) rfl Tryz.call15 (by repeat first | exact .nil | exact .z | apply Pk.s | apply Tk.cons) rfl ?_
             rintro v L' ⟨rfl, rfl⟩
             have hSn := hS.dev (hS.r.setFuse hact.n.2) (show (D.setFuse yy.n).l.length = n.toNat from hS.len)
             refine ynil' (kbn (kthn ?_))
             exact ksub (by repeat first | exact sub_nil | refine sub_cons rfl ?_ | refine sub_cons' rfl (by simp) ?_) (by repeat first | exact .refl | exact .nil | exact .z | apply Pk.s | refine Ge.e ?_ | apply Ge.pick | apply Ge.drop) (hJr36 _ hSn)
            ·(try simp only [sH] at h1281)
             refine cseq ?_; intro K175 hK175
             refine creg ?_
             refine y (ev_fieldAddr 0 rfl Tryz.underlying37 rfl Tryz.sizeOf3) rfl ?_
             refine y (ev_load rfl Tryz.isAgg3 (by repeat first | exact .z | apply In.s) rfl) rfl ?_
             refine y (ev_eql rfl rfl) rfl ?_
             refine y (ev_assign rfl) rfl ?_
             refine ynil' (kthn (hK175 _ _ ?_))
             clear hK175
             refine ccond rfl (fun h1294 => ?_) (fun h1294 => ?_)
             ·(try simp only [sH] at h1294)
              refine cseq ?_; intro K176 hK176
              refine creg ?_
              refine y (ev_move rfl) rfl ?_
              refine y (ev_fieldAddr 3 rfl Tryz.underlying37 rfl Tryz.sizeOf35) rfl ?_
              refine y (ev_load rfl Tryz.isAgg35 (by repeat first | exact .z | apply In.s) rfl) rfl ?_
              refine ycall (secCrash (ks := yy.ks) ?ok1298 ?ks1298) rfl Tryz.call16 (by repeat first | exact .nil | exact .z | apply Pk.s | apply Tk.cons) rfl ?_
              case ok1298 => first | exact hS.r.ok | exact hS.r.rok
              case ks1298 => exact hact.keeps.mono (by repeat first | exact .refl | exact .nil | exact .z | apply Pk.s | refine Ge.e ?_ | apply Ge.pick | apply Ge.drop)
              rintro v L' ⟨rfl, rfl⟩
              refine ynil' (kthn (hK176 _ _ ?_))
              clear hK176
              refine cseq ?_; intro K177 hK177
              refine creg ?_
              refine y (ev_move rfl) rfl ?_
              refine y (ev_fieldAddr 3 rfl Tryz.underlying37 rfl Tryz.sizeOf35) rfl ?_
              refine y (ev_load rfl Tryz.isAgg35 (by repeat first | exact .z | apply In.s) rfl) rfl ?_
              refine ycall (nKeeps8 (ks := yy.ks) ?ks1302 ?six1302) rfl Tryz.call18 (by repeat first | exact .nil | exact .z | apply Pk.s | apply Tk.cons) rfl ?_
              case ks1302 => exact hact.keeps.mono (by repeat first | exact .refl | exact .nil | exact .z | apply Pk.s | refine Ge.e ?_ | apply Ge.pick | apply Ge.drop)
              case six1302 => omega
              rintro v L' ⟨s139, rfl, ok139, rfl⟩
              refine ycall (rdCrash (ks := yy.ks) ?ok1303 ?ks1303) rfl Tryz.call17 (by repeat first | exact .nil | exact .z | apply Pk.s | apply Tk.cons) rfl ?_
              case ok1303 => first | exact hS.r.ok | exact hS.r.rok
              case ks1303 => exact rdV_sv (by repeat first | exact .z | apply In.s) ok139
              rintro v L' ⟨rfl, rfl⟩
              refine ynil' (kthn (hK177 _ _ ?_))
              clear hK177
              refine cseq ?_; intro K178 hK178
              refine creg ?_
              have hR1 := hS.r.crash yy.ks
              have hl1 : (D.crash yy.ks).l.length = n.toNat := by rw [← hS.len]; simp [Dev.crash, crashL_length]
              generalize D.crash yy.ks = D1 at *
              generalize E.crash yy.ks = E1 at *
              refine y (ev_move rfl) rfl ?_
              refine y (ev_move rfl) rfl ?_
              refine y (ev_move rfl) rfl ?_
              refine y (ev_move rfl) rfl ?_
              by_cases ho1 : drlE D1 a b nb = 0
              ·skip
               first | (refine ycall (dOpenOk hR1.ok ho1) rfl Tryz.call7 (by repeat first | exact .nil | exact .z | apply Pk.s | apply Tk.cons) rfl ?_; rintro v L' ⟨l49, c49, rfl, rfl⟩) | (refine ycall (dOpenBad hR1.ok rfl ho1) rfl Tryz.call7 (by repeat first | exact .nil | exact .z | apply Pk.s | apply Tk.cons) rfl ?_; rintro v L' ⟨rfl, rfl⟩)
               refine y (ev_move rfl) rfl ?_
               refine y (ev_extract rfl rfl) rfl ?_
               refine y (ev_extract rfl rfl) rfl ?_
               refine y (ev_assign rfl) rfl ?_
               refine y (ev_assign rfl) rfl ?_
               refine ynil' (kthn (hK178 _ _ ?_))
               clear hK178
               refine cseq ?_; intro K179 hK179
               refine creg ?_
               refine y (ev_move rfl) rfl ?_
               refine y (ev_move rfl) rfl ?_
               refine y (ev_move rfl) rfl ?_
               refine y (ev_move rfl) rfl ?_
               first | (refine ycall (qOpenOk hR1 ho1) rfl Tryz.call8 (by repeat first | exact .nil | exact .z | apply Pk.s | apply Tk.cons) rfl ?_; rintro v L' ⟨l57, c57, rfl, rfl⟩; have hSn := DdM.ok.two hR1 hl1 ho1 l49 c49 l57 c57) | (refine ycall (qOpenBad hR1 ho1) rfl Tryz.call8 (by repeat first | exact .nil | exact .z | apply Pk.s | apply Tk.cons) rfl ?_; rintro v L' ⟨rfl, rfl⟩; have hSn := DdM.ok.none' hR1 hl1)
               refine y (ev_move rfl) rfl ?_
               refine y (ev_extract rfl rfl) rfl ?_
               refine y (ev_extract rfl rfl) rfl ?_
               refine y (ev_assign rfl) rfl ?_
               refine y (ev_assign rfl) rfl ?_
               refine ynil' (kthn (hK179 _ _ ?_))
               clear hK179
               refine cseq ?_; intro K180 hK180
               refine creg ?_
               refine y (ev_move rfl) rfl ?_
               refine y (ev_move rfl) rfl ?_
               refine y (ev_neq rfl rfl) rfl ?_
               try rw [show (!decide (drlE D1 a b nb = drlE D1 a b nb)) = false by simp]
               refine y (ev_move rfl) rfl ?_
               refine yg1 rfl rfl ?_
               refine y (ev_move rfl) rfl ?_
               refine yg1 rfl rfl ?_
               refine y (ev_eqlPnil rfl rfl Tryz.underlying28) rfl ?_
               refine yg1 rfl rfl ?_
               refine y (ev_move rfl) rfl ?_
               refine yg1 rfl rfl ?_
               refine y (ev_eqlPnil rfl rfl Tryz.underlying32) rfl ?_
               refine yg1 rfl rfl ?_
               refine y (ev_neqB rfl rfl Tryz.underlying4) rfl ?_
               refine y (ev_pick0 rfl rfl) rfl ?_
               refine ynil' (kthn (hK180 _ _ ?_))
               clear hK180
               refine ccond0 rfl ?_
               refine cskip' (kbn (kthn ?_))
               exact ksub (by repeat first | exact sub_nil | refine sub_cons rfl ?_ | refine sub_cons' rfl (by simp) ?_) (by repeat first | exact .refl | exact .nil | exact .z | apply Pk.s | refine Ge.e ?_ | apply Ge.pick | apply Ge.drop) (hJr36 _ hSn)
              ·skip
               first | (refine ycall (dOpenOk hR1.ok ho1) rfl Tryz.call7 (by repeat first | exact .nil | exact .z | apply Pk.s | apply Tk.cons) rfl ?_; rintro v L' ⟨l49, c49, rfl, rfl⟩) | (refine ycall (dOpenBad hR1.ok rfl ho1) rfl Tryz.call7 (by repeat first | exact .nil | exact .z | apply Pk.s | apply Tk.cons) rfl ?_; rintro v L' ⟨rfl, rfl⟩)
               refine y (ev_move rfl) rfl ?_
               refine y (ev_extract rfl rfl) rfl ?_
               refine y (ev_extract rfl rfl) rfl ?_
               refine y (ev_assign rfl) rfl ?_
               refine y (ev_assign rfl) rfl ?_
               refine ynil' (kthn (hK178 _ _ ?_))
               clear hK178
               refine cseq ?_; intro K181 hK181
               refine creg ?_
               refine y (ev_move rfl) rfl ?_
               refine y (ev_move rfl) rfl ?_
               refine y (ev_move rfl) rfl ?_
               refine y (ev_move rfl) rfl ?_
               first | (refine ycall (qOpenOk hR1 ho1) rfl Tryz.call8 (by repeat first | exact .nil | exact .z | apply Pk.s | apply Tk.cons) rfl ?_; rintro v L' ⟨l57, c57, rfl, rfl⟩; have hSn := DdM.ok.two hR1 hl1 ho1 l49 c49 l57 c57) | (refine ycall (qOpenBad hR1 ho1) rfl Tryz.call8 (by repeat first | exact .nil | exact .z | apply Pk.s | apply Tk.cons) rfl ?_; rintro v L' ⟨rfl, rfl⟩; have hSn := DdM.ok.none' hR1 hl1)
               refine y (ev_move rfl) rfl ?_
               refine y (ev_extract rfl rfl) rfl ?_
               refine y (ev_extract rfl rfl) rfl ?_
               refine y (ev_assign rfl) rfl ?_
               refine y (ev_assign rfl) rfl ?_
               refine ynil' (kthn (hK181 _ _ ?_))
               clear hK181
               refine cseq ?_; intro K182 hK182
               refine creg ?_
               refine y (ev_move rfl) rfl ?_
               refine y (ev_move rfl) rfl ?_
               refine y (ev_neq rfl rfl) rfl ?_
               try rw [show (!decide (drlE D1 a b nb = drlE D1 a b nb)) = false by simp]
               refine y (ev_move rfl) rfl ?_
               refine yg1 rfl rfl ?_
               refine y (ev_move rfl) rfl ?_
               refine yg1 rfl rfl ?_
               refine y (ev_eqlPnil rfl rfl Tryz.underlying28) rfl ?_
               refine yg1 rfl rfl ?_
               refine y (ev_move rfl) rfl ?_
               refine yg1 rfl rfl ?_
               refine y (ev_eqlPnil rfl rfl Tryz.underlying32) rfl ?_
               refine yg1 rfl rfl ?_
               refine y (ev_neqB rfl rfl Tryz.underlying4) rfl ?_
               refine y (ev_pick0 rfl rfl) rfl ?_
               refine ynil' (kthn (hK182 _ _ ?_))
               clear hK182
               refine ccond0 rfl ?_
               refine cskip' (kbn (kthn ?_))
               exact ksub (by repeat first | exact sub_nil | refine sub_cons rfl ?_ | refine sub_cons' rfl (by simp) ?_) (by repeat first | exact .refl | exact .nil | exact .z | apply Pk.s | refine Ge.e ?_ | apply Ge.pick | apply Ge.drop) (hJr36 _ hSn)
             ·(try simp only [sH] at h1294)
              refine cseq ?_; intro K183 hK183
              refine creg ?_
              refine y (ev_fieldAddr 0 rfl Tryz.underlying37 rfl Tryz.sizeOf3) rfl ?_
              refine y (ev_load rfl Tryz.isAgg3 (by repeat first | exact .z | apply In.s) rfl) rfl ?_
              refine y (ev_eql rfl rfl) rfl ?_
              refine y (ev_assign rfl) rfl ?_
              refine ynil' (kthn (hK183 _ _ ?_))
              clear hK183
              refine ccond rfl (fun h1364 => ?_) (fun h1364 => ?_)
              ·(try simp only [sH] at h1364)
               refine cseq ?_; intro K184 hK184
               refine creg ?_
               refine y (ev_move rfl) rfl ?_
               refine y (ev_fieldAddr 1 rfl Tryz.underlying37 rfl Tryz.sizeOf3) rfl ?_
               refine y (ev_load rfl Tryz.isAgg3 (by repeat first | exact .z | apply In.s) rfl) rfl ?_
               refine y (ev_fieldAddr 2 rfl Tryz.underlying37 rfl Tryz.sizeOf9) rfl ?_
               refine y (ev_load rfl Tryz.isAgg9 (by repeat first | exact .z | apply In.s) rfl) rfl ?_
               refine ya (ac_toBytesY rfl Tryz.underlying9 Tryz.underlying47 Tryz.underlying5) rfl ?_
               rintro v L' ⟨b176, c176, sp176, fr176, rfl, hc176, rfl⟩
               refine ycall (secWrite (bs := yy.s) ?ok1371 ?rd1371) rfl Tryz.call19 (by repeat first | exact .nil | exact .z | apply Pk.s | apply Tk.cons) rfl ?_
               case ok1371 => first | exact hS.r.ok | exact hS.r.rok
               case rd1371 => exact rdB_in (by repeat first | exact .z | apply In.s) rfl (by simp)
               rintro v L' ⟨rfl, rfl⟩
               refine ynil' (kthn (hK184 _ _ ?_))
               clear hK184
               refine creg ?_
               refine y (ev_move rfl) rfl ?_
               refine y (ev_fieldAddr 1 rfl Tryz.underlying37 rfl Tryz.sizeOf3) rfl ?_
               refine y (ev_load rfl Tryz.isAgg3 (by repeat first | exact .z | apply In.s) rfl) rfl ?_
               refine y (ev_fieldAddr 2 rfl Tryz.underlying37 rfl Tryz.sizeOf9) rfl ?_
               refine y (ev_load rfl Tryz.isAgg9 (by repeat first | exact .z | apply In.s) rfl) rfl ?_
               refine ya (ac_toBytesY rfl Tryz.underlying9 Tryz.underlying47 Tryz.underlying5) rfl ?_
               rintro v L' ⟨b183, c183, sp183, fr183, rfl, hc183, rfl⟩
               refine ycall (rdWrite (bs := yy.s) ?ok1378 ?rd1378) rfl Tryz.call20 (by repeat first | exact .nil | exact .z | apply Pk.s | apply Tk.cons) rfl ?_
               case ok1378 => first | exact hS.r.ok | exact hS.r.rok
               case rd1378 => exact rdB_in (by repeat first | exact .z | apply In.s) rfl (by simp)
               rintro v L' ⟨rfl, rfl⟩
               obtain ⟨e1, e2⟩ := hS.r.write yy.n yy.s
               have hSn := hS.dev e2 (show (D.write yy.n yy.s).2.l.length = n.toNat by rw [write_l]; exact hS.len)
               refine ynil' (kbn (kthn ?_))
               exact ksub (by repeat first | exact sub_nil | refine sub_cons rfl ?_ | refine sub_cons' rfl (by simp) ?_) (by repeat first | exact .refl | exact .nil | exact .z | apply Pk.s | refine Ge.e ?_ | apply Ge.pick | apply Ge.drop) (hJr36 _ hSn)
              ·(try simp only [sH] at h1364)
               have hSn := hS
               refine cskip' (kbn (kthn ?_))
               exact ksub (by repeat first | exact sub_nil | refine sub_cons rfl ?_ | refine sub_cons' rfl (by simp) ?_) (by repeat first | exact .refl | exact .nil | exact .z | apply Pk.s | refine Ge.e ?_ | apply Ge.pick | apply Ge.drop) (hJr36 _ hSn)
         ·skip
          refine y (ev_fieldAddr 0 rfl Tryz.underlying37 rfl Tryz.sizeOf3) rfl ?_
          refine y (ev_load rfl Tryz.isAgg3 (by repeat first | exact .z | apply In.s) rfl) rfl ?_
          refine y (ev_eql rfl rfl) rfl ?_
          refine y (ev_move rfl) rfl ?_
          refine ysplit 90 rfl (fun h1383 => ?_) (fun h1383 => ?_)
          ·(try simp only [sH] at h1383)
           refine yg1 rfl rfl ?_
           refine y (ev_move rfl) rfl ?_
           refine yg1 rfl rfl ?_
           refine y (ev_neqPnil rfl rfl Tryz.underlying28) rfl ?_
           refine y (ev_pick1 rfl rfl) rfl ?_
           refine y (ev_assign rfl) rfl ?_
           refine ynil' (kthn (hK134 _ _ ?_))
           clear hK134
           refine ccond1 rfl ?_
           refine cseq ?_; intro K185 hK185
           refine cdraw 7 [(0, true), (1, true), (2, true), (4, true), (5, true), (6, true), (3, false)] ([sc b20 yy.cells 37] ++ R) Tryz.mixed (by kernel_rfl) (by repeat first | exact .refl | exact .nil | exact .z | apply Pk.s | refine Ge.e ?_ | apply Ge.pick | apply Ge.drop) ?_
           skip
           ·skip
            refine hr rfl (ev_move rfl) rfl ?_
            refine hr rfl (ev_fieldAddr 1 rfl Tryz.underlying37 rfl Tryz.sizeOf3) rfl ?_
            refine hr rfl (ev_load rfl Tryz.isAgg3 (by repeat first | exact .z | apply In.s) rfl) rfl ?_
            refine hr rfl (ev_move rfl) rfl ?_
            refine hr rfl (ev_fieldAddr 1 rfl Tryz.underlying37 rfl Tryz.sizeOf3) rfl ?_
            refine hr rfl (ev_load rfl Tryz.isAgg3 (by repeat first | exact .z | apply In.s) rfl) rfl ?_
            refine hcall rfl (dMark ?dl1394 ?di1394 ?dj1394) rfl Tryz.call10 (by repeat first | exact .nil | exact .z | apply Pk.s | apply Tk.cons) rfl ?_
            case dl1394 => first | exact hS.l | exact rl_ok hS.l hS.r
            case di1394 => exact hact.n.1
            case dj1394 => exact hact.n.2
            rintro v L' ⟨rfl, rfl⟩; refine ⟨(by repeat first | exact .refl | exact .nil | exact .z | apply Pk.s | refine Ge.e ?_ | apply Ge.pick | apply Ge.drop), ?_⟩
            refine hnil ?_
            refine ycall (qMark ?dl1395 ?dj1395) rfl Tryz.call11 (by repeat first | exact .nil | exact .z | apply Pk.s | apply Tk.cons) rfl ?_
            case dl1395 => first | exact hS.l | exact rl_ok hS.l hS.r
            case dj1395 => exact hact.n.2
            rintro v L' ⟨rfl, rfl⟩
            obtain ⟨e1, e2, e3⟩ := markR_rel (L := L) hS.r yy.n
            rw [← e1, ← e2]
            have hSn := DdM.ok.of (z := ((l1, c1), (l2, c2), (L.mark D yy.n).2.1)) e3 (drl_mark_l.trans hS.len) (drl_mark_ok hS.l yy.n)
            refine y (ev_neq rfl rfl) rfl ?_
            rw [show (!decide ((L.mark D yy.n).1 = (L.mark D yy.n).1)) = false by simp]
            refine hnoP' (kthn (hK185 _ _ ?_))
            clear hK185
            refine ccond0 rfl ?_
            refine cskip' (kbn (kthn ?_))
            exact ksub (by repeat first | exact sub_nil | refine sub_cons rfl ?_ | refine sub_cons' rfl (by simp) ?_) (by repeat first | exact .refl | exact .nil | exact .z | apply Pk.s | refine Ge.e ?_ | apply Ge.pick | apply Ge.drop) (hJr36 _ hSn)
          ·(try simp only [sH] at h1383)
           refine yg0 rfl rfl rfl rfl ?_
           refine yg0 rfl rfl rfl rfl ?_
           refine y (ev_pick0 rfl rfl) rfl ?_
           refine y (ev_assign rfl) rfl ?_
           refine ynil' (kthn (hK134 _ _ ?_))
           clear hK134
           refine ccond0 rfl ?_
           refine cseq ?_; intro K186 hK186
           refine creg ?_
           refine y (ev_fieldAddr 0 rfl Tryz.underlying37 rfl Tryz.sizeOf3) rfl ?_
           refine y (ev_load rfl Tryz.isAgg3 (by repeat first | exact .z | apply In.s) rfl) rfl ?_
           refine y (ev_eql rfl rfl) rfl ?_
           refine y (ev_move rfl) rfl ?_
           refine ysplit 107 rfl (fun h1403 => ?_) (fun h1403 => ?_)
           ·(try simp only [sH] at h1403)
            refine yg1 rfl rfl ?_
            refine y (ev_move rfl) rfl ?_
            refine yg1 rfl rfl ?_
            refine y (ev_neqPnil rfl rfl Tryz.underlying28) rfl ?_
            refine y (ev_pick1 rfl rfl) rfl ?_
            refine y (ev_assign rfl) rfl ?_
            refine ynil' (kthn (hK186 _ _ ?_))
            clear hK186
            refine ccond1 rfl ?_
            refine cseq ?_; intro K187 hK187
            refine creg ?_
            skip
            ·skip
             refine y (ev_move rfl) rfl ?_
             refine ycall (dClear ?dl1409) rfl Tryz.call12 (by repeat first | exact .nil | exact .z | apply Pk.s | apply Tk.cons) rfl ?_
             case dl1409 => first | exact hS.l | exact rl_ok hS.l hS.r
             rintro v L' ⟨rfl, rfl⟩
             refine y (ev_move rfl) rfl ?_
             refine ycall (qClear ?dl1411) rfl Tryz.call13 (by repeat first | exact .nil | exact .z | apply Pk.s | apply Tk.cons) rfl ?_
             case dl1411 => first | exact hS.l | exact rl_ok hS.l hS.r
             rintro v L' ⟨rfl, rfl⟩
             obtain ⟨e1, e2, e3⟩ := clearR_rel (L := L) hS.r
             rw [← e1, ← e2]
             have hSn := DdM.ok.of (z := ((l1, c1), (l2, c2), (L.clear D).2.1)) e3 (drl_clear_l.trans hS.len) (drl_clear_ok hS.l)
             refine y (ev_neq rfl rfl) rfl ?_
             rw [show (!decide ((L.clear D).1 = (L.clear D).1)) = false by simp]
             refine ynil' (kthn (hK187 _ _ ?_))
             clear hK187
             refine ccond0 rfl ?_
             refine cskip' (kbn (kthn ?_))
             exact ksub (by repeat first | exact sub_nil | refine sub_cons rfl ?_ | refine sub_cons' rfl (by simp) ?_) (by repeat first | exact .refl | exact .nil | exact .z | apply Pk.s | refine Ge.e ?_ | apply Ge.pick | apply Ge.drop) (hJr36 _ hSn)
           ·(try simp only [sH] at h1403)
            refine yg0 rfl rfl rfl rfl ?_
            refine yg0 rfl rfl rfl rfl ?_
            refine y (ev_pick0 rfl rfl) rfl ?_
            refine y (ev_assign rfl) rfl ?_
            refine ynil' (kthn (hK186 _ _ ?_))
            clear hK186
            refine ccond0 rfl ?_
            refine cseq ?_; intro K188 hK188
            refine creg ?_
            refine y (ev_fieldAddr 0 rfl Tryz.underlying37 rfl Tryz.sizeOf3) rfl ?_
            refine y (ev_load rfl Tryz.isAgg3 (by repeat first | exact .z | apply In.s) rfl) rfl ?_
            refine y (ev_eql rfl rfl) rfl ?_
            refine y (ev_assign rfl) rfl ?_
            refine ynil' (kthn (hK188 _ _ ?_))
            clear hK188
            refine ccond rfl (fun h1419 => ?_) (fun h1419 => ?_)
            ·(try simp only [sH] at h1419)
             refine cseq ?_; intro K189 hK189
             refine creg ?_
             refine y (ev_move rfl) rfl ?_
             refine y (ev_fieldAddr 1 rfl Tryz.underlying37 rfl Tryz.sizeOf3) rfl ?_
             refine y (ev_load rfl Tryz.isAgg3 (by repeat first | exact .z | apply In.s) rfl) rfl ?_
             refine ycall (secFuse) rfl Tryz.call14 (by repeat first | exact .nil | exact .z | apply Pk.s | apply Tk.cons) rfl ?_
             rintro v L' ⟨rfl, rfl⟩
             refine ynil' (kthn (hK189 _ _ ?_))
             clear hK189
             refine creg ?_
             refine y (ev_move rfl) rfl ?_
             refine y (ev_fieldAddr 1 rfl Tryz.underlying37 rfl Tryz.sizeOf3) rfl ?_
             refine y (ev_load rfl Tryz.isAgg3 (by repeat first | exact .z | apply In.s) rfl) rfl ?_
             refine ycall (rdFuse) rfl Tryz.call15 (by repeat first | exact .nil | exact .z | apply Pk.s | apply Tk.cons) rfl ?_
             rintro v L' ⟨rfl, rfl⟩
             have hSn := hS.dev (hS.r.setFuse hact.n.2) (show (D.setFuse yy.n).l.length = n.toNat from hS.len)
             refine ynil' (kbn (kthn ?_))
             exact ksub (by repeat first | exact sub_nil | refine sub_cons rfl ?_ | refine sub_cons' rfl (by simp) ?_) (by repeat first | exact .refl | exact .nil | exact .z | apply Pk.s | refine Ge.e ?_ | apply Ge.pick | apply Ge.drop) (hJr36 _ hSn)
            ·(try simp only [sH] at h1419)
             refine cseq ?_; intro K190 hK190
             refine creg ?_
             refine y (ev_fieldAddr 0 rfl Tryz.underlying37 rfl Tryz.sizeOf3) rfl ?_
             refine y (ev_load rfl Tryz.isAgg3 (by repeat first | exact .z | apply In.s) rfl) rfl ?_
             refine y (ev_eql rfl rfl) rfl ?_
             refine y (ev_assign rfl) rfl ?_
             refine ynil' (kthn (hK190 _ _ ?_))
             clear hK190
             refine ccond rfl (fun h1432 => ?_) (fun h1432 => ?_)
             ·(try simp only [sH] at h1432)
              refine cseq ?_; intro K191 hK191
              refine creg ?_
              refine y (ev_move rfl) rfl ?_
              refine y (ev_fieldAddr 3 rfl Tryz.underlying37 rfl Tryz.sizeOf35) rfl ?_
              refine y (ev_load rfl Tryz.isAgg35 (by repeat first | exact .z | apply In.s) rfl) rfl ?_
              refine ycall (secCrash (ks := yy.ks) ?ok1436 ?ks1436) rfl Tryz.call16 (by repeat first | exact .nil | exact .z | apply Pk.s | apply Tk.cons) rfl ?_
              case ok1436 => first | exact hS.r.ok | exact hS.r.rok
              case ks1436 => exact hact.keeps.mono (by repeat first | exact .refl | exact .nil | exact .z | apply Pk.s | refine Ge.e ?_ | apply Ge.pick | apply Ge.drop)
              rintro v L' ⟨rfl, rfl⟩
              refine ynil' (kthn (hK191 _ _ ?_))
              clear hK191
              refine cseq ?_; intro K192 hK192
              refine creg ?_
              refine y (ev_move rfl) rfl ?_
              refine y (ev_fieldAddr 3 rfl Tryz.underlying37 rfl Tryz.sizeOf35) rfl ?_
              refine y (ev_load rfl Tryz.isAgg35 (by repeat first | exact .z | apply In.s) rfl) rfl ?_
              refine ycall (nKeeps8 (ks := yy.ks) ?ks1440 ?six1440) rfl Tryz.call18 (by repeat first | exact .nil | exact .z | apply Pk.s | apply Tk.cons) rfl ?_
              case ks1440 => exact hact.keeps.mono (by repeat first | exact .refl | exact .nil | exact .z | apply Pk.s | refine Ge.e ?_ | apply Ge.pick | apply Ge.drop)
              case six1440 => omega
              rintro v L' ⟨s139, rfl, ok139, rfl⟩
              refine ycall (rdCrash (ks := yy.ks) ?ok1441 ?ks1441) rfl Tryz.call17 (by repeat first | exact .nil | exact .z | apply Pk.s | apply Tk.cons) rfl ?_
              case ok1441 => first | exact hS.r.ok | exact hS.r.rok
              case ks1441 => exact rdV_sv (by repeat first | exact .z | apply In.s) ok139
              rintro v L' ⟨rfl, rfl⟩
              refine ynil' (kthn (hK192 _ _ ?_))
              clear hK192
              refine cseq ?_; intro K193 hK193
              refine creg ?_
              have hR1 := hS.r.crash yy.ks
              have hl1 : (D.crash yy.ks).l.length = n.toNat := by rw [← hS.len]; simp [Dev.crash, crashL_length]
              generalize D.crash yy.ks = D1 at *
              generalize E.crash yy.ks = E1 at *
              refine y (ev_move rfl) rfl ?_
              refine y (ev_move rfl) rfl ?_
              refine y (ev_move rfl) rfl ?_
              refine y (ev_move rfl) rfl ?_
              by_cases ho1 : drlE D1 a b nb = 0
              ·skip
               first | (refine ycall (dOpenOk hR1.ok ho1) rfl Tryz.call7 (by repeat first | exact .nil | exact .z | apply Pk.s | apply Tk.cons) rfl ?_; rintro v L' ⟨l49, c49, rfl, rfl⟩) | (refine ycall (dOpenBad hR1.ok rfl ho1) rfl Tryz.call7 (by repeat first | exact .nil | exact .z | apply Pk.s | apply Tk.cons) rfl ?_; rintro v L' ⟨rfl, rfl⟩)
               refine y (ev_move rfl) rfl ?_
               refine y (ev_extract rfl rfl) rfl ?_
               refine y (ev_extract rfl rfl) rfl ?_
               refine y (ev_assign rfl) rfl ?_
               refine y (ev_assign rfl) rfl ?_
               refine ynil' (kthn (hK193 _ _ ?_))
               clear hK193
               refine cseq ?_; intro K194 hK194
               refine creg ?_
               refine y (ev_move rfl) rfl ?_
               refine y (ev_move rfl) rfl ?_
               refine y (ev_move rfl) rfl ?_
               refine y (ev_move rfl) rfl ?_
               first | (refine ycall (qOpenOk hR1 ho1) rfl Tryz.call8 (by repeat first | exact .nil | exact .z | apply Pk.s | apply Tk.cons) rfl ?_; rintro v L' ⟨l57, c57, rfl, rfl⟩; have hSn := DdM.ok.two hR1 hl1 ho1 l49 c49 l57 c57) | (refine ycall (qOpenBad hR1 ho1) rfl Tryz.call8 (by repeat first | exact .nil | exact .z | apply Pk.s | apply Tk.cons) rfl ?_; rintro v L' ⟨rfl, rfl⟩; have hSn := DdM.ok.none' hR1 hl1)
               refine y (ev_move rfl) rfl ?_
               refine y (ev_extract rfl rfl) rfl ?_
               refine y (ev_extract rfl rfl) rfl ?_
               refine y (ev_assign rfl) rfl ?_
               refine y (ev_assign rfl) rfl ?_
               refine ynil' (kthn (hK194 _ _ ?_))
               clear hK194
               refine cseq ?_; intro K195 hK195
               refine creg ?_
               refine y (ev_move rfl) rfl ?_
               refine y (ev_move rfl) rfl ?_
               refine y (ev_neq rfl rfl) rfl ?_
               try rw [show (!decide (drlE D1 a b nb = drlE D1 a b nb)) = false by simp]
               refine y (ev_move rfl) rfl ?_
               refine yg1 rfl rfl ?_
               refine y (ev_move rfl) rfl ?_
               refine yg1 rfl rfl ?_
               refine y (ev_eqlPnil rfl rfl Tryz.underlying28) rfl ?_
               refine yg1 rfl rfl ?_
               refine y (ev_move rfl) rfl ?_
               refine yg1 rfl rfl ?_
               refine y (ev_eqlPnil rfl rfl Tryz.underlying32) rfl ?_
               refine yg1 rfl rfl ?_
               refine y (ev_neqB rfl rfl Tryz.underlying4) rfl ?_
               refine y (ev_pick0 rfl rfl) rfl ?_
               refine ynil' (kthn (hK195 _ _ ?_))
               clear hK195
               refine ccond0 rfl ?_
               refine cskip' (kbn (kthn ?_))
               exact ksub (by repeat first | exact sub_nil | refine sub_cons rfl ?_ | refine sub_cons' rfl (by simp) ?_) (by repeat first | exact .refl | exact .nil | exact .z | apply Pk.s | refine Ge.e ?_ | apply Ge.pick | apply Ge.drop) (hJr36 _ hSn)
              ·skip
               first | (refine ycall (dOpenOk hR1.ok ho1) rfl Tryz.call7 (by repeat first | exact .nil | exact .z | apply Pk.s | apply Tk.cons) rfl ?_; rintro v L' ⟨l49, c49, rfl, rfl⟩) | (refine ycall (dOpenBad hR1.ok rfl ho1) rfl Tryz.call7 (by repeat first | exact .nil | exact .z | apply Pk.s | apply Tk.cons) rfl ?_; rintro v L' ⟨rfl, rfl⟩)
               refine y (ev_move rfl) rfl ?_
               refine y (ev_extract rfl rfl) rfl ?_
               refine y (ev_extract rfl rfl) rfl ?_
               refine y (ev_assign rfl) rfl ?_
               refine y (ev_assign rfl) rfl ?_
               refine ynil' (kthn (hK193 _ _ ?_))
               clear hK193
               refine cseq ?_; intro K196 hK196
               refine creg ?_
               refine y (ev_move rfl) rfl ?_
               refine y (ev_move rfl) rfl ?_
               refine y (ev_move rfl) rfl ?_
               refine y (ev_move rfl) rfl ?_
               first | (refine ycall (qOpenOk hR1 ho1) rfl Tryz.call8 (by repeat first | exact .nil | exact .z | apply Pk.s | apply Tk.cons) rfl ?_; rintro v L' ⟨l57, c57, rfl, rfl⟩; have hSn := DdM.ok.two hR1 hl1 ho1 l49 c49 l57 c57) | (refine ycall (qOpenBad hR1 ho1) rfl Tryz.call8 (by repeat first | exact .nil | exact .z | apply Pk.s | apply Tk.cons) rfl ?_; rintro v L' ⟨rfl, rfl⟩; have hSn := DdM.ok.none' hR1 hl1)
               refine y (ev_move rfl) rfl ?_
               refine y (ev_extract rfl rfl) rfl ?_
               refine y (ev_extract rfl rfl) rfl ?_
               refine y (ev_assign rfl) rfl ?_
               refine y (ev_assign rfl) rfl ?_
               refine ynil' (kthn (hK196 _ _ ?_))
               clear hK196
               refine cseq ?_; intro K197 hK197
               refine creg ?_
               refine y (ev_move rfl) rfl ?_
               refine y (ev_move rfl) rfl ?_
               refine y (ev_neq rfl rfl) rfl ?_
               try rw [show (!decide (drlE D1 a b nb = drlE D1 a b nb)) = false by simp]
               refine y (ev_move rfl) rfl ?_
               refine yg1 rfl rfl ?_
               refine y (ev_move rfl) rfl ?_
               refine yg1 rfl rfl ?_
               refine y (ev_eqlPnil rfl rfl Tryz.underlying28) rfl ?_
               refine yg1 rfl rfl ?_
               refine y (ev_move rfl) rfl ?_
               refine yg1 rfl rfl ?_
               refine y (ev_eqlPnil rfl rfl Tryz.underlying32) rfl ?_
               refine yg1 rfl rfl ?_
               refine y (ev_neqB rfl rfl Tryz.underlying4) rfl ?_
               refine y (ev_pick0 rfl rfl) rfl ?_
               refine ynil' (kthn (hK197 _ _ ?_))
               clear hK197
               refine ccond0 rfl ?_
               refine cskip' (kbn (kthn ?_))
               exact ksub (by repeat first | exact sub_nil | refine sub_cons rfl ?_ | refine sub_cons' rfl (by simp) ?_) (by repeat first | exact .refl | exact .nil | exact .z | apply Pk.s | refine Ge.e ?_ | apply Ge.pick | apply Ge.drop) (hJr36 _ hSn)
             ·(try simp only [sH] at h1432)
              refine cseq ?_; intro K198 hK198
              refine creg ?_
              refine y (ev_fieldAddr 0 rfl Tryz.underlying37 rfl Tryz.sizeOf3) rfl ?_
              refine y (ev_load rfl Tryz.isAgg3 (by repeat first | exact .z | apply In.s) rfl) rfl ?_
              refine y (ev_eql rfl rfl) rfl ?_
              refine y (ev_assign rfl) rfl ?_
              refine ynil' (kthn (hK198 _ _ ?_))
              clear hK198
              refine ccond rfl (fun h1502 => ?_) (fun h1502 => ?_)
              ·(try simp only [sH] at h1502)
               refine cseq ?_; intro K199 hK199
               refine creg ?_
               refine y (ev_move rfl) rfl ?_
               refine y (ev_fieldAddr 1 rfl Tryz.underlying37 rfl Tryz.sizeOf3) rfl ?_
               refine y (ev_load rfl Tryz.isAgg3 (by repeat first | exact .z | apply In.s) rfl) rfl ?_
               refine y (ev_fieldAddr 2 rfl Tryz.underlying37 rfl Tryz.sizeOf9) rfl ?_
               refine y (ev_load rfl Tryz.isAgg9 (by repeat first | exact .z | apply In.s) rfl) rfl ?_
               refine ya (ac_toBytesY rfl Tryz.underlying9 Tryz.underlying47 Tryz.underlying5) rfl ?_
               rintro v L' ⟨b176, c176, sp176, fr176, rfl, hc176, rfl⟩
               refine ycall (secWrite (bs := yy.s) ?ok1509 ?rd1509) rfl Tryz.call19 (by repeat first | exact .nil | exact .z | apply Pk.s | apply Tk.cons) rfl ?_
               case ok1509 => first | exact hS.r.ok | exact hS.r.rok
               case rd1509 => exact rdB_in (by repeat first | exact .z | apply In.s) rfl (by simp)
               rintro v L' ⟨rfl, rfl⟩
               refine ynil' (kthn (hK199 _ _ ?_))
               clear hK199
               refine creg ?_
               refine y (ev_move rfl) rfl ?_
               refine y (ev_fieldAddr 1 rfl Tryz.underlying37 rfl Tryz.sizeOf3) rfl ?_
               refine y (ev_load rfl Tryz.isAgg3 (by repeat first | exact .z | apply In.s) rfl) rfl ?_
               refine y (ev_fieldAddr 2 rfl Tryz.underlying37 rfl Tryz.sizeOf9) rfl ?_
               refine y (ev_load rfl Tryz.isAgg9 (by repeat first | exact .z | apply In.s) rfl) rfl ?_
               refine ya (ac_toBytesY rfl Tryz.underlying9 Tryz.underlying47 Tryz.underlying5) rfl ?_
               rintro v L' ⟨b183, c183, sp183, fr183, rfl, hc183, rfl⟩
               refine ycall (rdWrite (bs := yy.s) ?ok1516 ?rd1516) rfl Tryz.call20 (by repeat first | exact .nil | exact .z | apply Pk.s | apply Tk.cons) rfl ?_
               case ok1516 => first | exact hS.r.ok | exact hS.r.rok
               case rd1516 => exact rdB_in (by repeat first | exact .z | apply In.s) rfl (by simp)
               rintro v L' ⟨rfl, rfl⟩
               obtain ⟨e1, e2⟩ := hS.r.write yy.n yy.s
               have hSn := hS.dev e2 (show (D.write yy.n yy.s).2.l.length = n.toNat by rw [write_l]; exact hS.len)
               refine ynil' (kbn (kthn ?_))
               exact ksub (by repeat first | exact sub_nil | refine sub_cons rfl ?_ | refine sub_cons' rfl (by simp) ?_) (by repeat first | exact .refl | exact .nil | exact .z | apply Pk.s | refine Ge.e ?_ | apply Ge.pick | apply Ge.drop) (hJr36 _ hSn)
              ·(try simp only [sH] at h1502)
               have hSn := hS
               refine cskip' (kbn (kthn ?_))
               exact ksub (by repeat first | exact sub_nil | refine sub_cons rfl ?_ | refine sub_cons' rfl (by simp) ?_) (by repeat first | exact .refl | exact .nil | exact .z | apply Pk.s | refine Ge.e ?_ | apply Ge.pick | apply Ge.drop) (hJr36 _ hSn)
       ·(try simp only [sH] at h801)
        refine cexit (kthx (kthx (kbx (kthn ?_))))
        exact ksub (by repeat first | exact sub_nil | refine sub_cons rfl ?_ | refine sub_cons' rfl (by simp) ?_) (by repeat first | exact .refl | exact .nil | exact .z | apply Pk.s | refine Ge.e ?_ | apply Ge.pick | apply Ge.drop) (hJ1 ⟨z, D, E, t⟩ ⟨hI1o, by first | trivial | omega⟩)
      ·(try simp only [sH] at h797)
       refine yg0 rfl rfl rfl rfl ?_
       refine yg0 rfl rfl rfl rfl ?_
       refine y (ev_pick0 rfl rfl) rfl ?_
       refine ynil' (kthn (hK111 _ _ ?_))
       clear hK111
       refine ccond0 rfl ?_
       refine cexit (kthx (kthx (kbx (kthn ?_))))
       exact ksub (by repeat first | exact sub_nil | refine sub_cons rfl ?_ | refine sub_cons' rfl (by simp) ?_) (by repeat first | exact .refl | exact .nil | exact .z | apply Pk.s | refine Ge.e ?_ | apply Ge.pick | apply Ge.drop) (hJ1 ⟨z, D, E, t⟩ ⟨hI1o, by first | trivial | omega⟩)
     clear hK106
     refine cseq ?_; intro K200 hK200
     refine creg ?_
     refine y (ev_move rfl) rfl ?_
     refine y (ev_move rfl) rfl ?_
     refine y (ev_neq rfl rfl) rfl ?_
     try rw [show (!decide (drlE D0 a b nb = drlE D0 a b nb)) = false by simp]
     refine y (ev_move rfl) rfl ?_
     refine yg1 rfl rfl ?_
     refine y (ev_move rfl) rfl ?_
     refine yg1 rfl rfl ?_
     refine y (ev_eqlPnil rfl rfl Tryz.underlying28) rfl ?_
     refine yg1 rfl rfl ?_
     refine y (ev_move rfl) rfl ?_
     refine yg1 rfl rfl ?_
     refine y (ev_eqlPnil rfl rfl Tryz.underlying32) rfl ?_
     refine yg1 rfl rfl ?_
     refine y (ev_neqB rfl rfl Tryz.underlying4) rfl ?_
     refine y (ev_pick0 rfl rfl) rfl ?_
     refine ynil' (kthn (hK200 _ _ ?_))
     clear hK200
     refine ccond0 rfl ?_
     refine cskip' (kthn ?_)
     exact ksub (by repeat first | exact sub_nil | refine sub_cons rfl ?_ | refine sub_cons' rfl (by simp) ?_) (by repeat first | exact .refl | exact .nil | exact .z | apply Pk.s | refine Ge.e ?_ | apply Ge.pick | apply Ge.drop) (hJr11 t0 hS0)
   ·skip
    first | (refine ycall (secNewZ hn) rfl Tryz.call5 (by repeat first | exact .nil | exact .z | apply Pk.s | apply Tk.cons) rfl ?_; rintro v L' ⟨q29, rfl, rfl⟩) | (refine ycall (secNewNil (by omega)) rfl Tryz.call5 (by repeat first | exact .nil | exact .z | apply Pk.s | apply Tk.cons) rfl ?_; rintro v L' ⟨rfl, rfl⟩)
    refine y (ev_assign rfl) rfl ?_
    refine ynil' (kthn (hK4 _ _ ?_))
    clear hK4
    refine cseq ?_; intro K201 hK201
    refine creg ?_
    refine y (ev_move rfl) rfl ?_
    first | (refine ycall (rdNewZ hn) rfl Tryz.call6 (by repeat first | exact .nil | exact .z | apply Pk.s | apply Tk.cons) rfl ?_; rintro v L' ⟨p31, la31, rfl, rfl⟩) | (refine ycall (refNewNil (by omega)) rfl Tryz.call6 (by repeat first | exact .nil | exact .z | apply Pk.s | apply Tk.cons) rfl ?_; rintro v L' ⟨rfl, rfl⟩)
    refine y (ev_assign rfl) rfl ?_
    refine ynil' (kthn (hK201 _ _ ?_))
    clear hK201
    refine cseq ?_; intro K202 hK202
    refine cseq ?_; intro K203 hK203
    refine creg ?_
    refine y (ev_move rfl) rfl ?_
    refine y (ev_eqlPnil rfl rfl Tryz.underlying24) rfl ?_
    refine y (ev_move rfl) rfl ?_
    refine yg0 rfl rfl rfl rfl ?_
    refine yg0 rfl rfl rfl rfl ?_
    refine y (ev_pick1 rfl rfl) rfl ?_
    refine ynil' (kthn (hK203 _ _ ?_))
    clear hK203
    refine ccond1 rfl ?_
    refine cseq ?_; intro K204 hK204
    refine creg ?_
    refine y (ev_move rfl) rfl ?_
    refine y (ev_eqlPnil rfl rfl Tryz.underlying24) rfl ?_
    refine y (ev_move rfl) rfl ?_
    refine yg1 rfl rfl ?_
    refine y (ev_move rfl) rfl ?_
    refine yg1 rfl rfl ?_
    refine y (ev_eqlPnil rfl rfl Tryz.underlying26) rfl ?_
    refine y (ev_pick1 rfl rfl) rfl ?_
    refine y (ev_assign rfl) rfl ?_
    refine ynil' (kthn (hK204 _ _ ?_))
    clear hK204
    refine cret (kthr ?_)
    first
      | (exfalso; omega; done)
      | (refine kretv Tryz.results3 rfl (L1 := R) (by repeat first | exact .refl | exact .nil | exact .z | apply Pk.s | refine Ge.e ?_ | apply Ge.pick | apply Ge.drop) ?_
         exact ⟨_, ⟨by first | rfl | (exfalso; simp_all; done), rfl⟩, by first | rfl | (exfalso; simp_all; done)⟩)
end W
end Go.Proofs
