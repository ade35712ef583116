/- A part of the proof: contracts and plain lemmas, each without conditions beyond those that it names. -/
import Derived.Test.YtnfbhgalkcmbdaaGreatR3
set_option linter.unusedVariables false
set_option linter.unusedSimpArgs false
set_option linter.constructorNameAsVariable false
namespace Go.Proofs
open Go Go.Sl
namespace W
set_option linter.unusedVariables false
theorem nInts [Env] {R : List Seg} {v1 v2 : Value} {u1 u2 : List Int} (h1 : RdV R v1 u1.length (intsV u1)) (h2 : RdV R v2 u2.length (intsV u2)) (hl : u1.length ≤ 1000) (hl2 : u2.length ≤ 1000) :
    Con Tryz.prog 21 [v1, v2] [] R (Is (.bool (decide (u1 = u2))) []) := by
  have hv1 := h1.lenVal
  have hv2 := h2.lenVal
  refine con_enter Tryz.func21 Tryz.ntmps21 rfl rfl ?_
  refine cseq ?_; intro K1 hK1
  refine creg ?_
  refine y (ev_assign rfl) rfl ?_
  refine ynil' (kthn (hK1 _ _ ?_))
  clear hK1
  refine cseq ?_; intro K2 hK2
  refine cseq ?_; intro K3 hK3
  refine creg ?_
  refine y (ev_move rfl) rfl ?_
  refine y (ev_lenV rfl Tryz.underlying49 hv1) rfl ?_
  refine y (ev_move rfl) rfl ?_
  refine y (ev_lenV rfl Tryz.underlying49 hv2) rfl ?_
  refine y (ev_neq rfl rfl) rfl ?_
  refine ynil' (kthn (hK3 _ _ ?_))
  clear hK3
  refine ccond rfl (fun h7 => ?_) (fun h7 => ?_)
  ·(try simp only [sH] at h7)
   have hne : u1 ≠ u2 := fun e => by rw [e] at h7; simp at h7
   refine cseq ?_; intro K4 hK4
   refine creg ?_
   refine y (ev_assign rfl) rfl ?_
   refine ynil' (kthn (hK4 _ _ ?_))
   clear hK4
   refine cret (kthr ?_)
   first
     | (exfalso; omega; done)
     | (refine kretv Tryz.results21 rfl (L1 := [] ++ R) (by repeat first | exact .refl | exact .nil | exact .z | apply Pk.s | refine Ge.e ?_ | apply Ge.pick | apply Ge.drop) ?_
        exact ⟨_, ⟨by first | rw [decide_eq_false hne] | rw [decide_eq_true heq], rfl⟩, rfl⟩)
  ·(try simp only [sH] at h7)
   have hle : u1.length = u2.length := by omega
   refine cskip' (kthn (hK2 _ _ ?_))
   clear hK2
   refine cseq ?_; intro K5 hK5
   refine cseq ?_; intro K6 hK6
   refine creg ?_
   refine y (ev_move rfl) rfl ?_
   refine y (ev_lenV rfl Tryz.underlying49 hv1) rfl ?_
   refine y (ev_move rfl) rfl ?_
   refine ynil' (kthn (hK6 _ _ ?_))
   clear hK6
   have hJ1 : ∀ x : Nat, ((x ≤ u1.length ∧ u1.take x = u2.take x) ∧ (x = u1.length)) → Sk 26 K5 ([(13, i64 x), (12, i64 u1.length), (0, v1), (1, v2)]) (R) := by
    rintro k ⟨hI1, hX1⟩
    refine hK5 _ _ ?_
    obtain ⟨hk, htk⟩ := hI1
    have heq : u1 = u2 := by rw [hX1, List.take_length, hle, List.take_length] at htk; exact htk
    refine cseq ?_; intro K7 hK7
    refine creg ?_
    refine y (ev_assign rfl) rfl ?_
    refine ynil' (kthn (hK7 _ _ ?_))
    clear hK7
    refine cret ?_
    first
      | (exfalso; omega; done)
      | (refine kretv Tryz.results21 rfl (L1 := [] ++ R) (by repeat first | exact .refl | exact .nil | exact .z | apply Pk.s | refine Ge.e ?_ | apply Ge.pick | apply Ge.drop) ?_
         exact ⟨_, ⟨by first | rw [decide_eq_false hne] | rw [decide_eq_true heq], rfl⟩, rfl⟩)
   clear hK5
   refine cblock ?_
   refine cloop (A := Nat) (fun x => [(13, i64 x), (12, i64 u1.length), (0, v1), (1, v2)]) (fun x => R) (fun x => x ≤ u1.length ∧ u1.take x = u2.take x) (fun x => u1.length - x) (0) ?_ (by repeat first | exact sub_nil | refine sub_cons rfl ?_ | refine sub_cons' rfl (by simp) ?_) (by repeat first | exact .refl | exact .nil | exact .z | apply Pk.s | refine Ge.e ?_ | apply Ge.pick | apply Ge.drop) ?_
   · exact ⟨Nat.zero_le _, by simp⟩
   rintro k hI1 KL1 hL1
   have hI1o := hI1
   obtain ⟨hk, htk⟩ := hI1
   refine cseq ?_; intro K8 hK8
   refine creg ?_
   refine y (ev_lss rfl rfl) rfl ?_
   refine ynil' (kthn (hK8 _ _ ?_))
   clear hK8
   refine cseq ?_; intro K9 hK9
   refine ccond rfl (fun h14 => ?_) (fun h14 => ?_)
   ·(try simp only [sH] at h14)
    refine cskip' (kthn (hK9 _ _ ?_))
    clear hK9
    refine cseq ?_; intro K10 hK10
    refine cblock ?_
    refine cseq ?_; intro K11 hK11
    refine creg ?_
    refine y (ev_move rfl) rfl ?_
    refine y (ev_assign rfl) rfl ?_
    refine ynil' (kthn (hK11 _ _ ?_))
    clear hK11
    refine cseq ?_; intro K12 hK12
    refine cdraw 8 [(0, true), (1, true), (2, true), (3, true), (4, true), (5, true), (6, true), (7, true)] (_) Tryz.mixed (by kernel_rfl) .refl ?_
    obtain ⟨y1, hy1⟩ : ∃ y, u1[k]? = some y := ⟨_, List.getElem?_eq_getElem (by omega)⟩
    obtain ⟨y2, hy2⟩ : ∃ y, u2[k]? = some y := ⟨_, List.getElem?_eq_getElem (by omega)⟩
    refine hr rfl (ev_move rfl) rfl ?_
    refine hr rfl (ev_move rfl) rfl ?_
    refine hr rfl (ev_ixV h1 rfl rfl Tryz.underlying49 Tryz.sizeOf3 (by omega) (by omega)) rfl ?_
    refine hr rfl (ev_loadV k h1 (by repeat first | exact .refl | exact .nil | exact .z | apply Pk.s | refine Ge.e ?_ | apply Ge.pick | apply Ge.drop) rfl Tryz.isAgg3 (by simp) (intsV_get hy1)) rfl ?_
    refine hr rfl (ev_move rfl) rfl ?_
    refine hr rfl (ev_move rfl) rfl ?_
    refine hr rfl (ev_ixV h2 rfl rfl Tryz.underlying49 Tryz.sizeOf3 (by omega) (by omega)) rfl ?_
    refine hr rfl (ev_loadV k h2 (by repeat first | exact .refl | exact .nil | exact .z | apply Pk.s | refine Ge.e ?_ | apply Ge.pick | apply Ge.drop) rfl Tryz.isAgg3 (by simp) (intsV_get hy2)) rfl ?_
    refine hnil ?_
    refine y (ev_neq rfl rfl) rfl ?_
    refine hnoP' (kthn (hK12 _ _ ?_))
    clear hK12
    refine ccond rfl (fun h26 => ?_) (fun h26 => ?_)
    ·(try simp only [sH] at h26)
     have hne : u1 ≠ u2 := fun e => by subst e; rw [hy1] at hy2; exact h26 (Option.some.inj hy2)
     refine cseq ?_; intro K13 hK13
     refine creg ?_
     refine y (ev_assign rfl) rfl ?_
     refine ynil' (kthn (hK13 _ _ ?_))
     clear hK13
     refine cret (kbr (kthr (kthr (kbr (kthr ?_)))))
     first
       | (exfalso; omega; done)
       | (refine kretv Tryz.results21 rfl (L1 := [] ++ R) (by repeat first | exact .refl | exact .nil | exact .z | apply Pk.s | refine Ge.e ?_ | apply Ge.pick | apply Ge.drop) ?_
          exact ⟨_, ⟨by first | rw [decide_eq_false hne] | rw [decide_eq_true heq], rfl⟩, rfl⟩)
    ·(try simp only [sH] at h26)
     have hnx : u1.take (k + 1) = u2.take (k + 1) := by rw [take_snoc hy1, take_snoc hy2, htk, h26]
     refine cskip' (kbn (kthn (hK10 _ _ ?_)))
     clear hK10
     refine creg ?_
     refine y (ev_add rfl rfl) rfl ?_
     rw [show IntKind.i64.wrap ((k:Int) + 1) = ((k+1 : Nat) : Int) by rw [wr (by omega) (by omega)]; rfl]
     refine y (ev_move rfl) rfl ?_
     refine ynil' (kthn ?_)
     exact hL1 (k + 1) (⟨by omega, hnx⟩) (by omega) _ _ (by repeat first | exact sub_nil | refine sub_cons rfl ?_ | refine sub_cons' rfl (by simp) ?_) (by repeat first | exact .refl | exact .nil | exact .z | apply Pk.s | refine Ge.e ?_ | apply Ge.pick | apply Ge.drop)
   ·(try simp only [sH] at h14)
    refine cexit (kthx (kthx (kbx (kthn ?_))))
    exact ksub (by repeat first | exact sub_nil | refine sub_cons rfl ?_ | refine sub_cons' rfl (by simp) ?_) (by repeat first | exact .refl | exact .nil | exact .z | apply Pk.s | refine Ge.e ?_ | apply Ge.pick | apply Ge.drop) (hJ1 k ⟨hI1o, by first | trivial | omega⟩)
theorem gDOpen [Env] {R : List Seg} {q : Q3} {D : Dev} {a b nb : Int} {n N k : Nat} (h : DGood a b n D N k) (hn : nb = n) : Con Tryz.prog 7 [dp q, i64 a, i64 b, i64 nb] [dev q D] R (fun u L' => ∃ l c, u = .tuple #[ptr l, i64 0] ∧ L' = [drlP l c (drlO D a b n), celP c q (openC D a b), dev q D]) := by
  subst hn
  have hE : drlE D a b n = 0 := by unfold drlE; have := h.n; rw [if_neg (by omega)]; exact h.e
  refine (dOpen h.up.ok).mono ?_
  rintro v L (⟨h1, _⟩ | ⟨_, l, c, rfl, rfl⟩)
  · exact absurd hE h1
  · rw [Int.toNat_natCast]; exact ⟨l, c, rfl, rfl⟩
theorem gDMark [Env] {R : List Seg} {l c : Nat} {q : Q3} {D : Dev} {a b i : Int} {n N k : Nat} (h : DGood a b n D N k) (hk : k < 4611686018427387904) (h1 : -9223372036854775808 ≤ i) (h2 : i ≤ 9223372036854775807) :
    Con Tryz.prog 10 [ptr l, i64 i] [drlP l c (drlO D a b n), celP c q (openC D a b), dev q D] R
      (fun u L' => ∃ D', u = i64 (if inR n i = true then 0 else 2) ∧ DGood a b n D' N (k + 1) ∧ (drlO D' a b n).bits = (if inR n i = true then putR (drlO D a b n).bits (i / 4) else (drlO D a b n).bits) ∧ (∀ j : Int, 0 ≤ j → j < N → j ≠ a → j ≠ b → D'.sec j = D.sec j) ∧ L' = [drlP l c (drlO D' a b n), celP c q (openC D' a b), dev q D']) := by
  obtain ⟨D', e1, e2, e3, e4⟩ := h.mark hk i
  refine (dMark (L := drlO D a b n) h.ok h1 h2).mono ?_
  rintro v L ⟨rfl, rfl⟩
  rw [e1]
  exact ⟨D', rfl, e2, e3, e4, rfl⟩
theorem gDClear [Env] {R : List Seg} {l c : Nat} {q : Q3} {D : Dev} {a b : Int} {n N k : Nat} (h : DGood a b n D N k) (hk : k < 4611686018427387904) :
    Con Tryz.prog 12 [ptr l] [drlP l c (drlO D a b n), celP c q (openC D a b), dev q D] R
      (fun u L' => ∃ D', u = i64 0 ∧ DGood a b n D' N (k + 1) ∧ (drlO D' a b n).bits = 0 ∧ (∀ j : Int, 0 ≤ j → j < N → j ≠ a → j ≠ b → D'.sec j = D.sec j) ∧ L' = [drlP l c (drlO D' a b n), celP c q (openC D' a b), dev q D']) := by
  obtain ⟨D', e1, e2, e3, e4⟩ := h.clear hk
  refine (dClear (L := drlO D a b n) h.ok).mono ?_
  rintro v L ⟨rfl, rfl⟩
  rw [e1]
  exact ⟨D', rfl, e2, e3, e4, rfl⟩
theorem dOpenBad [Env] {R : List Seg} {q : Q3} {D : Dev} {a b nb e : Int} (hD : D.ok) (h : drlE D a b nb = e) (he : e ≠ 0) : Con Tryz.prog 7 [dp q, i64 a, i64 b, i64 nb] [dev q D] R (Is (.tuple #[nilP, i64 e]) [dev q D]) := by
  subst h
  refine (dOpen hD).mono ?_
  rintro v L (⟨_, rfl, rfl⟩ | ⟨h1, _⟩)
  · exact ⟨rfl, rfl⟩
  · exact absurd h1 he
theorem awake8 [Env] {R : List Seg} : Con Tryz.prog 4 [] [] R (Is (.bool true) []) := by
  obtain ⟨hG0, hb0⟩ := new_dgood (N := 2) (n := 6) (a := 0) (b := 1) (by decide) (by decide) (by decide) (by decide) (by decide)
  have hE1 : drlE (Dev.new 2) 0 1 0 = 1 := by unfold drlE; rw [if_pos (by decide)]
  refine con_enter Tryz.func4 Tryz.ntmps4 rfl rfl ?_
  refine cseq ?_; intro K1 hK1
  refine creg ?_
  refine y (ev_assign rfl) rfl ?_
  refine ynil' (kthn (hK1 _ _ ?_))
  clear hK1
  refine cseq ?_; intro K2 hK2
  refine creg ?_
  refine ycall (secNew (n := 2) (by omega)) rfl Tryz.call5 (by repeat first | exact .nil | exact .z | apply Pk.s | apply Tk.cons) rfl ?_
  rintro v L' ⟨q11, rfl, rfl⟩
  refine y (ev_assign rfl) rfl ?_
  refine ynil' (kthn (hK2 _ _ ?_))
  clear hK2
  refine cseq ?_; intro K3 hK3
  refine cseq ?_; intro K4 hK4
  refine creg ?_
  refine y (ev_move rfl) rfl ?_
  skip
  ·skip
   refine y (ev_eqlPnil rfl rfl Tryz.underlying24) rfl ?_
   refine ynil' (kthn (hK4 _ _ ?_))
   clear hK4
   refine ccond0 rfl ?_
   refine cskip' (kthn (hK3 _ _ ?_))
   clear hK3
   refine cseq ?_; intro K5 hK5
   refine creg ?_
   refine y (ev_move rfl) rfl ?_
   refine ycall (gDOpen hG0 rfl) rfl Tryz.call7 (by repeat first | exact .nil | exact .z | apply Pk.s | apply Tk.cons) rfl ?_
   rintro v L' ⟨l16, c16, rfl, rfl⟩
   refine y (ev_move rfl) rfl ?_
   refine y (ev_extract rfl rfl) rfl ?_
   refine y (ev_extract rfl rfl) rfl ?_
   refine y (ev_assign rfl) rfl ?_
   refine y (ev_assign rfl) rfl ?_
   refine ynil' (kthn (hK5 _ _ ?_))
   clear hK5
   refine cseq ?_; intro K6 hK6
   refine creg ?_
   refine y (ev_move rfl) rfl ?_
   refine ycall (dOpenBad hG0.up.ok hE1 (by decide)) rfl Tryz.call7 (by repeat first | exact .nil | exact .z | apply Pk.s | apply Tk.cons) rfl ?_
   rintro v L' ⟨rfl, rfl⟩
   refine y (ev_move rfl) rfl ?_
   refine y (ev_extract rfl rfl) rfl ?_
   refine y (ev_extract rfl rfl) rfl ?_
   refine y (ev_assign rfl) rfl ?_
   refine y (ev_assign rfl) rfl ?_
   refine ynil' (kthn (hK6 _ _ ?_))
   clear hK6
   refine cseq ?_; intro K7 hK7
   refine cseq ?_; intro K8 hK8
   refine creg ?_
   refine y (ev_move rfl) rfl ?_
   skip
   ·skip
    refine y (ev_eqlPnil rfl rfl Tryz.underlying28) rfl ?_
    generalize Dev.new 2 = D0 at *
    refine y (ev_move rfl) rfl ?_
    refine yg1 rfl rfl ?_
    refine y (ev_move rfl) rfl ?_
    refine yg1 rfl rfl ?_
    refine y (ev_neq rfl rfl) rfl ?_
    refine y (ev_pick0 rfl rfl) rfl ?_
    refine y (ev_move rfl) rfl ?_
    refine yg1 rfl rfl ?_
    refine y (ev_move rfl) rfl ?_
    refine yg1 rfl rfl ?_
    refine y (ev_neq rfl rfl) rfl ?_
    refine y (ev_pick0 rfl rfl) rfl ?_
    refine ynil' (kthn (hK8 _ _ ?_))
    clear hK8
    refine ccond0 rfl ?_
    refine cskip' (kthn (hK7 _ _ ?_))
    clear hK7
    refine cseq ?_; intro K9 hK9
    refine creg ?_
    refine y (ev_move rfl) rfl ?_
    refine ycall (gDMark (n := 6) (N := 2) (k := 0) ?dg60 ?dk60 ?di60 ?dj60) rfl Tryz.call10 (by repeat first | exact .nil | exact .z | apply Pk.s | apply Tk.cons) rfl ?_
    case dg60 => first | exact hG0 | exact hG35
    case dk60 => decide
    case di60 => decide
    case dj60 => decide
    rintro v L' ⟨D35, rfl, hG35, hb35, hs35, rfl⟩
    have hb1 : (drlO D35 0 1 6).bits = 2 := by rw [hb35, hb0]; rfl
    refine y (ev_assign rfl) rfl ?_
    refine ynil' (kthn (hK9 _ _ ?_))
    clear hK9
    refine cseq ?_; intro K10 hK10
    refine creg ?_
    refine y (ev_move rfl) rfl ?_
    refine ycall (gDMark (n := 6) (N := 2) (k := 1) ?dg63 ?dk63 ?di63 ?dj63) rfl Tryz.call10 (by repeat first | exact .nil | exact .z | apply Pk.s | apply Tk.cons) rfl ?_
    case dg63 => first | exact hG0 | exact hG35
    case dk63 => decide
    case di63 => decide
    case dj63 => decide
    rintro v L' ⟨D37, rfl, hG37, hb37, hs37, rfl⟩
    have hb2 : (drlO D37 0 1 6).bits = 2 := by rw [hb37]; exact hb1
    obtain ⟨hGc, hoc⟩ := hG37.crash []
    refine y (ev_assign rfl) rfl ?_
    refine ynil' (kthn (hK10 _ _ ?_))
    clear hK10
    refine cseq ?_; intro K11 hK11
    refine creg ?_
    refine y (ev_move rfl) rfl ?_
    refine ycall (secCrash (ks := []) ?ok66 ?ks66) rfl Tryz.call16 (by repeat first | exact .nil | exact .z | apply Pk.s | apply Tk.cons) rfl ?_
    case ok66 => exact hG37.up.ok
    case ks66 => exact rdV_nil
    rintro v L' ⟨rfl, rfl⟩
    refine ynil' (kthn (hK11 _ _ ?_))
    clear hK11
    refine cseq ?_; intro K12 hK12
    refine creg ?_
    refine y (ev_move rfl) rfl ?_
    refine ycall (gDOpen hGc rfl) rfl Tryz.call7 (by repeat first | exact .nil | exact .z | apply Pk.s | apply Tk.cons) rfl ?_
    rintro v L' ⟨l42, c42, rfl, rfl⟩
    have hb3 : (drlO (D37.crash []) 0 1 6).bits = 2 := by rw [hoc]; exact hb2
    obtain ⟨hbl, hhs, htx⟩ := drl_same (L := drlO (D37.crash []) 0 1 6) (M := ⟨CellM.init 0 1, 6, 2⟩) rfl hb3
    generalize D37.crash [] = D3 at *
    refine y (ev_move rfl) rfl ?_
    refine y (ev_extract rfl rfl) rfl ?_
    refine y (ev_extract rfl rfl) rfl ?_
    refine y (ev_assign rfl) rfl ?_
    refine y (ev_assign rfl) rfl ?_
    refine ynil' (kthn (hK12 _ _ ?_))
    clear hK12
    refine cseq ?_; intro K13 hK13
    refine cseq ?_; intro K14 hK14
    refine creg ?_
    refine y (ev_move rfl) rfl ?_
    skip
    ·skip
     refine y (ev_eqlPnil rfl rfl Tryz.underlying28) rfl ?_
     refine y (ev_move rfl) rfl ?_
     refine yg1 rfl rfl ?_
     refine y (ev_move rfl) rfl ?_
     refine yg1 rfl rfl ?_
     refine y (ev_neq rfl rfl) rfl ?_
     refine y (ev_pick0 rfl rfl) rfl ?_
     refine y (ev_move rfl) rfl ?_
     refine yg1 rfl rfl ?_
     refine y (ev_move rfl) rfl ?_
     refine yg1 rfl rfl ?_
     refine ycall (dHas ?dn82 ?db82 ?di82 ?dj82) rfl Tryz.call24 (by repeat first | exact .nil | exact .z | apply Pk.s | apply Tk.cons) rfl ?_
     case dn82 => exact hGc.n
     case db82 => exact hGc.ok.bits
     case di82 => decide
     case dj82 => decide
     rintro v L' ⟨rfl, rfl⟩
     rw [hhs]
     refine yg1 rfl rfl ?_
     refine y (ev_not rfl) rfl ?_
     refine y (ev_pick0 rfl rfl) rfl ?_
     refine y (ev_move rfl) rfl ?_
     refine yg1 rfl rfl ?_
     refine y (ev_move rfl) rfl ?_
     refine yg1 rfl rfl ?_
     refine ycall (dHas ?dn87 ?db87 ?di87 ?dj87) rfl Tryz.call24 (by repeat first | exact .nil | exact .z | apply Pk.s | apply Tk.cons) rfl ?_
     case dn87 => exact hGc.n
     case db87 => exact hGc.ok.bits
     case di87 => decide
     case dj87 => decide
     rintro v L' ⟨rfl, rfl⟩
     rw [hhs]
     refine y (ev_pick0 rfl rfl) rfl ?_
     refine y (ev_move rfl) rfl ?_
     refine yg1 rfl rfl ?_
     refine y (ev_move rfl) rfl ?_
     refine yg1 rfl rfl ?_
     refine ycall (dBlocks ?dn91 ?db91) rfl Tryz.call22 (by repeat first | exact .nil | exact .z | apply Pk.s | apply Tk.cons) rfl ?_
     case dn91 => exact hGc.n
     case db91 => exact hGc.ok.bits
     rintro v L' ⟨s62, rfl, ok62, rfl⟩
     rw [hbl] at ok62 ⊢
     refine yg1 rfl rfl ?_
     first
       | refine y (ev_len rfl Tryz.underlying49) rfl ?_
       | refine y (ev_lenSv rfl Tryz.underlying49 (by assumption)) rfl ?_
       | refine y (ev_lenV rfl Tryz.underlying49 (RdV.lenVal (by assumption))) rfl ?_
       | refine y (ev_lenV rfl Tryz.underlying49 (RdB.lenVal (by assumption))) rfl ?_
     refine yg1 rfl rfl ?_
     refine y (ev_neq rfl rfl) rfl ?_
     refine y (ev_pick0 rfl rfl) rfl ?_
     refine ynil' (kthn (hK14 _ _ ?_))
     clear hK14
     refine ccond0 rfl ?_
     refine cskip' (kthn (hK13 _ _ ?_))
     clear hK13
     refine cseq ?_; intro K15 hK15
     refine creg ?_
     refine y (ev_move rfl) rfl ?_
     refine ycall (gDClear (n := 6) (N := 2) (k := 2) ?dg96 ?dk96) rfl Tryz.call12 (by repeat first | exact .nil | exact .z | apply Pk.s | apply Tk.cons) rfl ?_
     case dg96 => exact hGc
     case dk96 => decide
     rintro v L' ⟨D67, rfl, hG67, hb67, hs67, rfl⟩
     have hzb := zero_blks hb67
     refine y (ev_assign rfl) rfl ?_
     refine ynil' (kthn (hK15 _ _ ?_))
     clear hK15
     refine cseq ?_; intro K16 hK16
     refine creg ?_
     refine y (ev_move rfl) rfl ?_
     skip
     ·skip
      refine y (ev_eql rfl rfl) rfl ?_
      refine y (ev_move rfl) rfl ?_
      refine yg1 rfl rfl ?_
      refine y (ev_move rfl) rfl ?_
      refine yg1 rfl rfl ?_
      refine y (ev_eql rfl rfl) rfl ?_
      refine y (ev_pick1 rfl rfl) rfl ?_
      refine y (ev_move rfl) rfl ?_
      refine yg1 rfl rfl ?_
      refine y (ev_move rfl) rfl ?_
      refine yg1 rfl rfl ?_
      refine y (ev_eql rfl rfl) rfl ?_
      refine y (ev_pick1 rfl rfl) rfl ?_
      refine y (ev_move rfl) rfl ?_
      refine yg1 rfl rfl ?_
      refine y (ev_move rfl) rfl ?_
      refine yg1 rfl rfl ?_
      refine ycall (dBlocks ?dn110 ?db110) rfl Tryz.call22 (by repeat first | exact .nil | exact .z | apply Pk.s | apply Tk.cons) rfl ?_
      case dn110 => exact hG67.n
      case db110 => exact hG67.ok.bits
      rintro v L' ⟨s80, rfl, ok80, rfl⟩
      rw [hzb] at ok80 ⊢
      refine yg1 rfl rfl ?_
      first
        | refine y (ev_len rfl Tryz.underlying49) rfl ?_
        | refine y (ev_lenSv rfl Tryz.underlying49 (by assumption)) rfl ?_
        | refine y (ev_lenV rfl Tryz.underlying49 (RdV.lenVal (by assumption))) rfl ?_
        | refine y (ev_lenV rfl Tryz.underlying49 (RdB.lenVal (by assumption))) rfl ?_
      refine yg1 rfl rfl ?_
      refine y (ev_eql rfl rfl) rfl ?_
      refine y (ev_pick1 rfl rfl) rfl ?_
      refine y (ev_move rfl) rfl ?_
      refine yg1 rfl rfl ?_
      refine y (ev_move rfl) rfl ?_
      refine yg1 rfl rfl ?_
      refine ycall (dRow) rfl Tryz.call26 (by repeat first | exact .nil | exact .z | apply Pk.s | apply Tk.cons) rfl ?_
      rintro v L' ⟨rfl, rfl⟩
      refine yg1 rfl rfl ?_
      refine ycall (xLen) rfl Tryz.call31 (by repeat first | exact .nil | exact .z | apply Pk.s | apply Tk.cons) rfl ?_
      rintro v L' ⟨rfl, rfl⟩
      refine yg1 rfl rfl ?_
      refine y (ev_eql rfl rfl) rfl ?_
      rw [show (decide (((regs (drlO D67 0 1 6).n : Nat) : Int) = 2)) = true by simp [regs, drlO]]
      refine y (ev_pick1 rfl rfl) rfl ?_
      refine y (ev_assign rfl) rfl ?_
      refine ynil' (kthn (hK16 _ _ ?_))
      clear hK16
      refine cret ?_
      first
        | (exfalso; omega; done)
        | (refine kretv Tryz.results4 rfl (L1 := R) (by repeat first | exact .refl | exact .nil | exact .z | apply Pk.s | refine Ge.e ?_ | apply Ge.pick | apply Ge.drop) ?_
           exact ⟨_, ⟨by rfl, rfl⟩, by rfl⟩)
end W
end Go.Proofs
