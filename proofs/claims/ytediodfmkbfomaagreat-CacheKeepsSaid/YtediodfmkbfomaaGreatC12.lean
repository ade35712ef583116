/- A part of the proof: contracts and plain lemmas, each without conditions beyond those that it names. -/
import Derived.Test.YtediodfmkbfomaaGreatC11
import Derived.Test.YtediodfmkbfomaaGreatGN
set_option linter.unusedVariables false
set_option linter.unusedSimpArgs false
set_option linter.constructorNameAsVariable false
namespace Go.Proofs
open Go Go.Sl
namespace W
set_option linter.unusedVariables false
theorem bOpenY [Env] {R : List Seg} {q : Q3} {D : Dev} {first n a b : Int} (hD : D.ok) (ha : a ≤ 9223372036854775807) (hb : b ≤ 9223372036854775807) (h : (logOpen D first n a b).1 = 0) :
   Con Tryz.prog 46 [dp q, i64 first, i64 n, i64 a, i64 b] [dev q D] R (fun u L' => ∃ p c sl, u = .tuple #[ptr p, i64 0] ∧ itOk sl (logOpen D first n a b).2.1 ∧ L' = [logG p c q sl (logOpen D first n a b).2.1, dev q (logOpen D first n a b).2.2]) := by
 refine (lOpen (R := R) (q := q) (first := first) (n := n) (a := a) (b := b) hD ha hb).via (.refl _) ?_
 rintro v L (⟨h1, _⟩ | ⟨_, p, c, sl, rfl, h2, rfl⟩)
 · exact absurd h h1
 · exact ⟨_, ⟨p, c, sl, rfl, h2, rfl⟩, pG2.symm⟩
theorem bOpenN [Env] {R : List Seg} {q : Q3} {D : Dev} {first n a b : Int} (hD : D.ok) (ha : a ≤ 9223372036854775807) (hb : b ≤ 9223372036854775807) (h : ¬ (logOpen D first n a b).1 = 0) :
   Con Tryz.prog 46 [dp q, i64 first, i64 n, i64 a, i64 b] [dev q D] R (Is (.tuple #[nilP, i64 (logOpen D first n a b).1]) [dev q (logOpen D first n a b).2.2]) := by
 refine (lOpen (R := R) (q := q) (first := first) (n := n) (a := a) (b := b) hD ha hb).mono ?_
 rintro v L (⟨h1, rfl, rfl⟩ | ⟨h1, _⟩)
 · exact ⟨rfl, rfl⟩
 · exact absurd h1 h
def KCO (r : Int × CaM × Dev) (q : Q3) (u : Value) (L' : List Seg) : Prop :=
 (r.1 ≠ 0 ∧ u = .tuple #[nilP, i64 r.1] ∧ L' = [dev q r.2.2]) ∨
 (r.1 = 0 ∧ ∃ A sl, u = .tuple #[ptr A.p, i64 0] ∧ itOk sl r.2.1.l ∧ L' = [caP A r.2.1, enS A r.2.1, puS A r.2.1, lgS A q sl r.2.1, dev q r.2.2])
theorem strsV_at {l : List (Bytes × Int)} {i : Nat} {x : Bytes × Int} (h : l[i]? = some x) : (l.map (·.1))[i]? = some x.1 := by simp [h]
theorem kOpen [Env] {R : List Seg} {q : Q3} {D : Dev} {first n a b bl : Int} (hD : D.ok) (ha : a ≤ 9223372036854775807) (hb : b ≤ 9223372036854775807) :
   Con Tryz.prog 20 [dp q, i64 first, i64 n, i64 a, i64 b, i64 bl] [dev q D] R (KCO (caOpen D first n a b bl) q) := by
 have hop : caOpen D first n a b bl = if bl < 1 ∨ 32 < bl ∨ n < 8 then (1, caInit (log0 D first n.toNat a b) bl.toNat, D) else
   if (logOpen D first n a b).1 ≠ 0 then ((logOpen D first n a b).1, caInit (logOpen D first n a b).2.1 bl.toNat, (logOpen D first n a b).2.2) else
   match caLoad bl.toNat (logOpen D first n a b).2.1.l (logOpen D first n a b).2.1.head (caInit (logOpen D first n a b).2.1 bl.toNat) with
   | none => (4, caInit (logOpen D first n a b).2.1 bl.toNat, (logOpen D first n a b).2.2)
   | some C => (0, C, (logOpen D first n a b).2.2) := rfl
 refine con_enter Tryz.func20 Tryz.ntmps20 rfl rfl ?_
 refine cseq ?_; intro K1 hK1
 refine creg ?_
 refine yas ?_
 refine yas ?_
 refine ynil' (kthn (hK1 _ _ ?_))
 clear hK1
 refine cseq ?_; intro K2 hK2
 refine cseq ?_; intro K3 hK3
 refine creg ?_
 refine ymv ?_
 refine y (ev_lss rfl rfl) rfl ?_
 refine ymv ?_
 refine ysplit 23 rfl (fun h6 => ?_) (fun h6 => ?_)
 ·(try simp only [sH] at h6)
  refine ygz ?_
  refine ygz ?_
  refine ypa ?_
  refine ymv ?_
  refine ygz ?_
  refine ygz ?_
  refine ypa ?_
  refine ynil' (kthn (hK3 _ _ ?_))
  clear hK3
  refine ccond1 rfl ?_
  refine cseq ?_; intro K4 hK4
  refine creg ?_
  try rw [if_pos (by omega)] at hop
  refine yas ?_
  refine yas ?_
  refine ynil' (kthn (hK4 _ _ ?_))
  clear hK4
  refine cret (kthr ?_)
  first
    | (exfalso; omega; done)
    | (refine kretv2 Tryz.results20 rfl rfl (L1 := [dev q D] ++ R) zge ?_
       rw [hop]; exact ⟨_, .inl ⟨by show (_ : Int) ≠ 0; simp, rfl, rfl⟩, rfl⟩)
 ·(try simp only [sH] at h6)
  refine ygo ?_
  refine ymv ?_
  refine ygo ?_
  refine y (ev_gtr rfl rfl) rfl ?_
  refine ypb ?_
  refine ymv ?_
  refine ysplit 27 rfl (fun h16 => ?_) (fun h16 => ?_)
  ·(try simp only [sH] at h16)
   refine ygz ?_
   refine ygz ?_
   refine ypa ?_
   refine ynil' (kthn (hK3 _ _ ?_))
   clear hK3
   refine ccond1 rfl ?_
   refine cseq ?_; intro K5 hK5
   refine creg ?_
   try rw [if_pos (by omega)] at hop
   refine yas ?_
   refine yas ?_
   refine ynil' (kthn (hK5 _ _ ?_))
   clear hK5
   refine cret (kthr ?_)
   first
     | (exfalso; omega; done)
     | (refine kretv2 Tryz.results20 rfl rfl (L1 := [dev q D] ++ R) zge ?_
        rw [hop]; exact ⟨_, .inl ⟨by show (_ : Int) ≠ 0; simp, rfl, rfl⟩, rfl⟩)
  ·(try simp only [sH] at h16)
   refine ygo ?_
   refine ymv ?_
   refine ygo ?_
   refine y (ev_lss rfl rfl) rfl ?_
   refine ypb ?_
   refine ynil' (kthn (hK3 _ _ ?_))
   clear hK3
   refine ccond rfl (fun h23 => ?_) (fun h23 => ?_)
   ·(try simp only [sH] at h23)
    rw [if_pos (by omega)] at hop
    refine cseq ?_; intro K6 hK6
    refine creg ?_
    try rw [if_pos (by omega)] at hop
    refine yas ?_
    refine yas ?_
    refine ynil' (kthn (hK6 _ _ ?_))
    clear hK6
    refine cret (kthr ?_)
    first
      | (exfalso; omega; done)
      | (refine kretv2 Tryz.results20 rfl rfl (L1 := [dev q D] ++ R) zge ?_
         rw [hop]; exact ⟨_, .inl ⟨by show (_ : Int) ≠ 0; simp, rfl, rfl⟩, rfl⟩)
   ·(try simp only [sH] at h23)
    rw [if_neg (by omega)] at hop
    have hb2 : 1 ≤ bl.toNat ∧ bl.toNat ≤ 32 := by omega
    have hn8 : 8 ≤ n.toNat := by omega
    obtain ⟨bn, hbn⟩ : ∃ bn : Nat, bl = bn := ⟨bl.toNat, by omega⟩
    obtain ⟨nn, hnn⟩ : ∃ nn : Nat, n = nn := ⟨n.toNat, by omega⟩
    subst hbn; subst hnn
    rw [Int.toNat_natCast] at hb2 hop
    rw [Int.toNat_natCast] at hn8
    refine cskip' (kthn (hK2 _ _ ?_))
    clear hK2
    refine cseq ?_; intro K7 hK7
    refine creg ?_
    refine ymv ?_
    refine ymv ?_
    refine ymv ?_
    refine ymv ?_
    refine ymv ?_
    by_cases ho : (logOpen D first nn a b).1 = 0
    ·skip
     first | (refine ycall (bOpenY hD ha hb ho) rfl Tryz.call46 ztk rfl ?_; rintro v L' ⟨p37, c37, sl37, rfl, ok37, rfl⟩; obtain ⟨hLo, hLn⟩ := logOpen_ok hD ho; rw [if_neg (fun hz => hz ho)] at hop; rw [Int.toNat_natCast] at hLn; generalize logOpen D first nn a b = lo at *; obtain ⟨elo, L, D1⟩ := lo; dsimp only at *; subst hLn) | (refine ycall (bOpenN hD ha hb ho) rfl Tryz.call46 ztk rfl ?_; rintro v L' ⟨rfl, rfl⟩; rw [if_pos ho] at hop)
     refine ymv ?_
     refine yxt ?_
     refine yxt ?_
     refine yas ?_
     refine yas ?_
     refine ynil' (kthn (hK7 _ _ ?_))
     clear hK7
     refine cseq ?_; intro K8 hK8
     refine cseq ?_; intro K9 hK9
     refine creg ?_
     refine ymv ?_
     refine y (ev_neq rfl rfl) rfl ?_
     refine ynil' (kthn (hK9 _ _ ?_))
     clear hK9
     refine ccond0 rfl ?_
     refine cskip' (kthn (hK8 _ _ ?_))
     clear hK8
     refine cseq ?_; intro K10 hK10
     refine creg ?_
     refine ymv ?_
     refine ymv ?_
     refine ymv ?_
     refine ya (ac_makeMap) rfl ?_
     rintro v L' ⟨b46, rfl, rfl⟩
     refine ya (ac_makeMap) rfl ?_
     rintro v L' ⟨b47, rfl, rfl⟩
     refine y (ev_build (zs := _) rfl Tryz.underlying84 Tryz.zeroValue84 rfl (.cons Tryz.sizeOf79 (.cons Tryz.sizeOf3 (.cons Tryz.sizeOf3 (.cons Tryz.sizeOf29 (.cons Tryz.sizeOf80 (.cons Tryz.sizeOf82 .nil)))))) ⟨⟨_, _, rfl, (by first | rfl | simp), (by first | decide | simp)⟩, ⟨⟨_, _, rfl, (by first | rfl | simp), (by first | decide | simp)⟩, ⟨⟨_, _, rfl, (by first | rfl | simp), (by first | decide | simp)⟩, ⟨⟨_, _, rfl, (by first | rfl | simp), (by first | decide | simp)⟩, ⟨⟨_, _, rfl, (by first | rfl | simp), (by first | decide | simp)⟩, trivial⟩⟩⟩⟩⟩ (by dsimp [fillL, splice, vcells] <;> rfl)) rfl ?_
     refine ya (ac_box (vs := caC ⟨0, p37, c37, b46, b47⟩ (caInit L bn)) rfl rfl) rfl ?_
     rintro v L' ⟨b49, rfl, rfl⟩
     refine yas ?_
     refine ynil' (kthn (hK10 _ _ ?_))
     clear hK10
     refine cseq ?_; intro K11 hK11
     refine cseq ?_; intro K12 hK12
     refine creg ?_
     have hI0 := CaL.init hLo hb2 hn8
     have hl512 : L.l.length ≤ 512 := by have h1 := hLo.l; have h2 := hLo.first; have h3 := hLo.d.n; omega
     have htl := hLo.tail
     have hhd := hLo.head
     have hn5 : L.n ≤ 512 := by have h2 := hLo.first; have h3 := hLo.d.n; omega
     refine ymv ?_
     refine ycall (bRecords ok37 hl512) rfl Tryz.call47 ztk rfl ?_
     rintro v L' ⟨s51, rfl, ok51, rfl⟩
     have hv : RdV [svSeg s51 9 (strsV (L.l.map (·.1)))] (svVal s51 (L.l.map (·.1)).length) (L.l.map (·.1)).length (strsV (L.l.map (·.1))) := rdV_sv .z ok51
     have hml : (L.l.map (·.1)).length = L.l.length := by simp
     first
       | refine y (ev_len rfl Tryz.underlying98) rfl ?_
       | refine y (ev_lenSv rfl Tryz.underlying98 (by assumption)) rfl ?_
       | refine y (ev_lenV rfl Tryz.underlying98 (RdV.lenVal (by assumption))) rfl ?_
       | refine y (ev_lenV rfl Tryz.underlying98 (RdB.lenVal (by assumption))) rfl ?_
     refine ymv ?_
     refine ynil' (kthn (hK12 _ _ ?_))
     clear hK12
     have hJ1 : ∀ x : Nat × CaM, ((CaL L bn D1 x.1 x.2 ∧ x.1 ≤ L.l.length) ∧ (x.1 = L.l.length)) → Sk 75 K11 ([(53, i64 x.1), (52, i64 (L.l.map (·.1)).length), (51, svVal s51 (L.l.map (·.1)).length), (16, ptr b49), (14, ptr p37)]) ([svSeg s51 9 (strsV (L.l.map (·.1))), caP ⟨b49, p37, c37, b46, b47⟩ x.2, enS ⟨b49, p37, c37, b46, b47⟩ x.2, puS ⟨b49, p37, c37, b46, b47⟩ x.2, logG p37 c37 q sl37 L, dev q D1] ++ R) := by
      rintro ⟨i, C⟩ ⟨hI1, hX1⟩
      refine hK11 _ _ ?_
      obtain ⟨hI, hi⟩ := hI1; dsimp only at hI hi ⊢
      dsimp only at hX1; subst hX1; rw [hI.over] at hop; dsimp only at hop
      refine cseq ?_; intro K13 hK13
      refine creg ?_
      refine ymv ?_
      refine yas ?_
      refine yas ?_
      refine ynil' (kthn (hK13 _ _ ?_))
      clear hK13
      refine cret ?_
      first
        | (exfalso; omega; done)
        | (refine kretv2 Tryz.results20 rfl rfl (L1 := [caP ⟨b49, p37, c37, b46, b47⟩ C, enS ⟨b49, p37, c37, b46, b47⟩ C, puS ⟨b49, p37, c37, b46, b47⟩ C, logG p37 c37 q sl37 L, dev q D1] ++ R) zge ?_
           rw [hop]; exact ⟨_, .inr ⟨rfl, ⟨b49, p37, c37, b46, b47⟩, sl37, rfl, by rw [hI.l]; exact ok37, by unfold lgS; rw [hI.l]⟩, rfl⟩)
     clear hK11
     refine cblock ?_
     refine cloop (A := Nat × CaM) (fun x => [(53, i64 x.1), (52, i64 (L.l.map (·.1)).length), (51, svVal s51 (L.l.map (·.1)).length), (16, ptr b49), (14, ptr p37)]) (fun x => [svSeg s51 9 (strsV (L.l.map (·.1))), caP ⟨b49, p37, c37, b46, b47⟩ x.2, enS ⟨b49, p37, c37, b46, b47⟩ x.2, puS ⟨b49, p37, c37, b46, b47⟩ x.2, logG p37 c37 q sl37 L, dev q D1] ++ R) (fun x => CaL L bn D1 x.1 x.2 ∧ x.1 ≤ L.l.length) (fun x => L.l.length - x.1) ((0, caInit L bn)) ?_ zsub zge ?_
     · exact ⟨hI0, Nat.zero_le _⟩
     rintro ⟨i, C⟩ hI1 KL1 hL1
     have hI1o := hI1
     obtain ⟨hI, hi⟩ := hI1; dsimp only at hI hi ⊢
     refine cseq ?_; intro K14 hK14
     refine creg ?_
     refine y (ev_lss rfl rfl) rfl ?_
     refine ynil' (kthn (hK14 _ _ ?_))
     clear hK14
     refine cseq ?_; intro K15 hK15
     refine ccond rfl (fun h55 => ?_) (fun h55 => ?_)
     ·(try simp only [sH] at h55)
      obtain ⟨y0, hy0⟩ : ∃ y0, L.l[i]? = some y0 := ⟨_, List.getElem?_eq_getElem (by omega)⟩
      have hy110 := (hLo.its y0 (List.mem_of_getElem? hy0)).1
      refine cskip' (kthn (hK15 _ _ ?_))
      clear hK15
      refine cseq ?_; intro K16 hK16
      refine cblock ?_
      refine cseq ?_; intro K17 hK17
      refine creg ?_
      refine ymv ?_
      refine y (ev_ixV hv rfl rfl Tryz.underlying98 Tryz.sizeOf9 (by omega) (by omega)) rfl ?_
      refine y (ev_loadV i hv zge rfl Tryz.isAgg9 (by simp) (strsV_get (strsV_at hy0))) rfl ?_
      refine yas ?_
      refine yas ?_
      refine ynil' (kthn (hK17 _ _ ?_))
      clear hK17
      refine cseq ?_; intro K18 hK18
      refine creg ?_
      refine ymv ?_
      refine ymv ?_
      refine ycall (kRead (A := ⟨b49, p37, c37, b46, b47⟩) (C := C) ?bl63 ?bz63) rfl Tryz.call48 ztk rfl ?_
      case bl63 => rw [hI.b]; omega
      case bz63 => omega
      rintro v L' ⟨rfl, hrd61⟩
      rw [hI.b] at hrd61
      rcases hrd61 with ⟨r0, hr0, rfl⟩ | ⟨hr0, us, hu7, hu1, rfl⟩
      ·skip
       refine ymv ?_
       refine yxt ?_
       refine yxt ?_
       refine ya (ac_alloc Tryz.zeroValue101 rfl) rfl ?_
       rintro v L' ⟨b19, rfl, rfl⟩
       first | (refine ya0 (ac_storeAll rfl rfl (recA_one r0) Tryz.sizeOf101 zrp rfl rfl) ?_; rintro v L' ⟨rfl, rfl⟩) | (refine ya0 (ac_storeAll rfl rfl hu1 Tryz.sizeOf101 zrp hu7 rfl) ?_; rintro v L' ⟨rfl, rfl⟩)
       refine yas ?_
       refine ynil' (kthn (hK18 _ _ ?_))
       clear hK18
       refine cseq ?_; intro K19 hK19
       refine cseq ?_; intro K20 hK20
       refine creg ?_
       refine ymv ?_
       refine y (ev_not rfl) rfl ?_
       refine ynil' (kthn (hK20 _ _ ?_))
       clear hK20
       refine ccond0 rfl ?_
       refine cskip' (kthn (hK19 _ _ ?_))
       clear hK19
       refine cdraw 6 [(0, true), (1, true), (2, true), (4, true), (3, false), (5, true)] (_) Tryz.mixed (by kernel_rfl) .refl ?_
       refine hr rfl (ev_move rfl) rfl ?_
       refine hr rfl (ev_loadN (u := recA r0) rfl Tryz.isAgg101 Tryz.sizeOf101 zin rfl rfl) rfl ?_
       refine hr rfl (ev_move rfl) rfl ?_
       refine hr rfl (ev_move rfl) rfl ?_
       refine hcall rfl (bHead (p := p37) (c := c37) (q := q) (sl := sl37) (L := L)) rfl Tryz.call50 ztk rfl ?_
       rintro v L' ⟨rfl, rfl⟩; refine ⟨zge, ?_⟩
       refine hr rfl (ev_add rfl rfl) rfl ?_
       rw [wr (by unfold LogM.tail at htl; omega) (by unfold LogM.tail at htl; omega)]
       refine hnil ?_
       refine ycall (kDoes (A := ⟨b49, p37, c37, b46, b47⟩) (C := C) (r := r0) (num := L.head + i) ?mok78) rfl Tryz.call49 ztk rfl ?_
       case mok78 => exact hI.ok.m
       rintro v L' ⟨rfl, rfl⟩
       refine hnoP' (kbn (kthn (hK16 _ _ ?_)))
       clear hK16
       refine creg ?_
       refine y (ev_add rfl rfl) rfl ?_
       rw [show IntKind.i64.wrap ((i:Int) + 1) = ((i+1 : Nat) : Int) by rw [wr (by omega) (by omega)]; rfl]
       refine ymv ?_
       refine ynil' (kthn ?_)
       exact hL1 ((i + 1, C.does r0 (L.head + i))) (⟨hI.step hy0 hr0, by dsimp only; omega⟩) (by dsimp only; omega) _ _ zsub zge
      ·skip
       refine ymv ?_
       refine yxt ?_
       refine yxt ?_
       refine ya (ac_alloc Tryz.zeroValue101 rfl) rfl ?_
       rintro v L' ⟨b19, rfl, rfl⟩
       first | (refine ya0 (ac_storeAll rfl rfl (recA_one r0) Tryz.sizeOf101 zrp rfl rfl) ?_; rintro v L' ⟨rfl, rfl⟩) | (refine ya0 (ac_storeAll rfl rfl hu1 Tryz.sizeOf101 zrp hu7 rfl) ?_; rintro v L' ⟨rfl, rfl⟩)
       refine yas ?_
       refine ynil' (kthn (hK18 _ _ ?_))
       clear hK18
       refine cseq ?_; intro K21 hK21
       refine cseq ?_; intro K22 hK22
       refine creg ?_
       refine ymv ?_
       refine y (ev_not rfl) rfl ?_
       refine ynil' (kthn (hK22 _ _ ?_))
       clear hK22
       refine ccond1 rfl ?_
       refine cseq ?_; intro K23 hK23
       refine creg ?_
       rw [hI.fail hy0 hr0] at hop
       refine yas ?_
       refine yas ?_
       refine ynil' (kthn (hK23 _ _ ?_))
       clear hK23
       refine cret (kthr (kbr (kthr (kthr (kbr (kthr ?_))))))
       first
         | (exfalso; omega; done)
         | (refine kretv2 Tryz.results20 rfl rfl (L1 := [dev q D1] ++ R) zge ?_
            rw [hop]; exact ⟨_, .inl ⟨by show (_ : Int) ≠ 0; simp, rfl, rfl⟩, rfl⟩)
     ·(try simp only [sH] at h55)
      refine cexit (kthx (kthx (kbx (kthn ?_))))
      exact ksub zsub zge (hJ1 ⟨i, C⟩ ⟨hI1o, by dsimp only; omega⟩)
    ·skip
     first | (refine ycall (bOpenY hD ha hb ho) rfl Tryz.call46 ztk rfl ?_; rintro v L' ⟨p37, c37, sl37, rfl, ok37, rfl⟩; obtain ⟨hLo, hLn⟩ := logOpen_ok hD ho; rw [if_neg (fun hz => hz ho)] at hop; rw [Int.toNat_natCast] at hLn; generalize logOpen D first nn a b = lo at *; obtain ⟨elo, L, D1⟩ := lo; dsimp only at *; subst hLn) | (refine ycall (bOpenN hD ha hb ho) rfl Tryz.call46 ztk rfl ?_; rintro v L' ⟨rfl, rfl⟩; rw [if_pos ho] at hop)
     refine ymv ?_
     refine yxt ?_
     refine yxt ?_
     refine yas ?_
     refine yas ?_
     refine ynil' (kthn (hK7 _ _ ?_))
     clear hK7
     refine cseq ?_; intro K24 hK24
     refine cseq ?_; intro K25 hK25
     refine creg ?_
     refine ymv ?_
     refine y (ev_neq rfl rfl) rfl ?_
     refine ynil' (kthn (hK25 _ _ ?_))
     clear hK25
     refine ccond rfl (fun h99 => ?_) (fun h99 => ?_)
     ·(try simp only [sH] at h99)
      refine cseq ?_; intro K26 hK26
      refine creg ?_
      refine ymv ?_
      refine yas ?_
      refine yas ?_
      refine ynil' (kthn (hK26 _ _ ?_))
      clear hK26
      refine cret (kthr ?_)
      first
        | (exfalso; omega; done)
        | (refine kretv2 Tryz.results20 rfl rfl (L1 := [dev q (logOpen D first nn a b).2.2] ++ R) zge ?_
           rw [hop]; exact ⟨_, .inl ⟨ho, rfl, rfl⟩, rfl⟩)
     ·(try simp only [sH] at h99)
      exact absurd h99 ho
end W
end Go.Proofs
