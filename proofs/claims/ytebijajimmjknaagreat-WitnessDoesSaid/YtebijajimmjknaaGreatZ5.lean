/- A part of the proof: contracts and plain lemmas, each without conditions beyond those that it names. -/
import Derived.Test.YtebijajimmjknaaGreatZ4
import Derived.Test.YtebijajimmjknaaGreatW6
import Derived.Test.YtebijajimmjknaaGreatGH
import Derived.Test.YtebijajimmjknaaGreatGL
set_option linter.unusedVariables false
set_option linter.unusedSimpArgs false
set_option linter.constructorNameAsVariable false
namespace Go.Proofs
open Go Go.Sl
namespace W
set_option linter.unusedVariables false
theorem xKeeps [Env] {R : List Seg} {kv : Value} {ks : Keeps} (hkk : RdV R kv ks.length (keepsV ks)) (h6 : ks.length ≤ 600) :
    Con Tryz.prog 17 [kv] [] R (KSv 119 ks.length 2 (keepsV ks) []) := by
  refine con_enter Tryz.func17 Tryz.ntmps17 rfl rfl ?_
  refine cseq ?_; intro K1 hK1
  refine creg ?_
  refine y (ev_assign rfl) rfl ?_
  refine ynil' (kthn (hK1 _ _ ?_))
  clear hK1
  refine cseq ?_; intro K2 hK2
  refine creg ?_
  refine ya (ac_bslice0 Tryz.underlying46 Tryz.sizeOf119) rfl ?_
  rintro v L' ⟨b5, rfl, rfl⟩
  refine y (ev_assign rfl) rfl ?_
  refine ynil' (kthn (hK2 _ _ ?_))
  clear hK2
  refine cseq ?_; intro K3 hK3
  refine cseq ?_; intro K4 hK4
  refine creg ?_
  refine y (ev_assign rfl) rfl ?_
  refine ynil' (kthn (hK4 _ _ ?_))
  clear hK4
  have hJ1 : ∀ x : Nat × Sv, ((svOk x.2 x.1 2 (keepsV (ks.take x.1)) ∧ x.1 ≤ ks.length) ∧ (x.1 = ks.length)) → Sk 31 K3 ([(4, i64 x.1), (3, svVal x.2 x.1), (0, kv)]) ([svSeg x.2 119 (keepsV (ks.take x.1))] ++ R) := by
   rintro ⟨k, s3⟩ ⟨hI1, hX1⟩
   refine hK3 _ _ ?_
   obtain ⟨ok3, hk⟩ := hI1; dsimp only at ok3 hk ⊢
   dsimp only at hX1; subst hX1; rw [List.take_length] at ok3 ⊢
   refine cseq ?_; intro K5 hK5
   refine creg ?_
   refine y (ev_move rfl) rfl ?_
   refine y (ev_assign rfl) rfl ?_
   refine ynil' (kthn (hK5 _ _ ?_))
   clear hK5
   refine cret ?_
   first
     | (exfalso; omega; done)
     | (refine kretv Tryz.results17 rfl (L1 := [svSeg _ _ _] ++ R) zge ?_
        exact ⟨_, ⟨s3, rfl, ok3, rfl⟩, rfl⟩)
  clear hK3
  refine cblock ?_
  refine cloop (A := Nat × Sv) (fun x => [(4, i64 x.1), (3, svVal x.2 x.1), (0, kv)]) (fun x => [svSeg x.2 119 (keepsV (ks.take x.1))] ++ R) (fun x => svOk x.2 x.1 2 (keepsV (ks.take x.1)) ∧ x.1 ≤ ks.length) (fun x => ks.length - x.1) ((0, some (b5, 0, []))) ?_ zsub zge ?_
  · exact ⟨⟨Nat.le_refl _, Nat.zero_le _, rfl, rfl⟩, Nat.zero_le _⟩
  rintro ⟨k, s3⟩ hI1 KL1 hL1
  have hI1o := hI1
  obtain ⟨ok3, hk⟩ := hI1; dsimp only at ok3 hk ⊢
  refine cseq ?_; intro K6 hK6
  refine cseq ?_; intro K7 hK7
  refine creg ?_
  refine y (ev_move rfl) rfl ?_
  refine y (ev_move rfl) rfl ?_
  first
    | refine y (ev_len rfl Tryz.underlying38) rfl ?_
    | refine y (ev_lenSv rfl Tryz.underlying38 (by assumption)) rfl ?_
    | refine y (ev_lenV rfl Tryz.underlying38 (RdV.lenVal (by assumption))) rfl ?_
    | refine y (ev_lenV rfl Tryz.underlying38 (RdB.lenVal (by assumption))) rfl ?_
  refine y (ev_lss rfl rfl) rfl ?_
  refine y (ev_move rfl) rfl ?_
  refine ysplit 10 rfl (fun h12 => ?_) (fun h12 => ?_)
  ·(try simp only [sH] at h12)
   refine yg1 rfl rfl ?_
   refine y (ev_move rfl) rfl ?_
   refine yg1 rfl rfl ?_
   refine y (ev_lss rfl rfl) rfl ?_
   refine y (ev_pick1 rfl rfl) rfl ?_
   refine ynil' (kthn (hK7 _ _ ?_))
   clear hK7
   refine ccond rfl (fun h16 => ?_) (fun h16 => ?_)
   ·(try simp only [sH] at h16)
    obtain ⟨yy, hy⟩ : ∃ yy, ks[k]? = some yy := ⟨_, List.getElem?_eq_getElem (by omega)⟩
    obtain ⟨hy1, hy2⟩ := keepsV_get ks _ yy hy
    refine cskip' (kthn (hK6 _ _ ?_))
    clear hK6
    refine cseq ?_; intro K8 hK8
    refine cblock ?_
    refine cdraw 13 [(0, true), (1, true), (2, true), (3, true), (4, true), (5, true), (6, true), (7, true), (8, true), (9, true), (10, true), (11, true), (12, false)] (_) Tryz.mixed (by kernel_rfl) .refl ?_
    refine hr rfl (ev_move rfl) rfl ?_
    refine hr rfl (ev_move rfl) rfl ?_
    refine hr rfl (ev_move rfl) rfl ?_
    first
      | refine hr rfl (ev_ixAddr rfl rfl Tryz.underlying38 Tryz.sizeOf116 (by omega) (by omega)) rfl ?_
      | refine hr rfl (ev_ixV (by assumption) rfl rfl Tryz.underlying38 Tryz.sizeOf116 (by omega) (by omega)) rfl ?_
    refine hr rfl (ev_fieldAddr 0 rfl Tryz.underlying116 rfl Tryz.sizeOf3) rfl ?_
    refine hr rfl (ev_loadV (k * 2) hkk zge rfl Tryz.isAgg3 (by simp) hy1) rfl ?_
    refine hr rfl (ev_move rfl) rfl ?_
    refine hr rfl (ev_move rfl) rfl ?_
    first
      | refine hr rfl (ev_ixAddr rfl rfl Tryz.underlying38 Tryz.sizeOf116 (by omega) (by omega)) rfl ?_
      | refine hr rfl (ev_ixV (by assumption) rfl rfl Tryz.underlying38 Tryz.sizeOf116 (by omega) (by omega)) rfl ?_
    refine hr rfl (ev_fieldAddr 1 rfl Tryz.underlying116 rfl Tryz.sizeOf3) rfl ?_
    refine hr rfl (ev_loadV (k * 2 + 1) hkk zge rfl Tryz.isAgg3 (by simp; omega) hy2) rfl ?_
    refine hr rfl (ev_build (zs := _) rfl Tryz.underlying119 Tryz.zeroValue119 rfl (.cons Tryz.sizeOf3 (.cons Tryz.sizeOf3 .nil)) ⟨⟨_, _, rfl, (by first | rfl | simp), (by first | decide | simp)⟩, ⟨⟨_, _, rfl, (by first | rfl | simp), (by first | decide | simp)⟩, trivial⟩⟩ (by dsimp [fillL, splice, vcells] <;> rfl)) rfl ?_
    refine ha rfl (ac_bsliceR rfl Tryz.underlying46 Tryz.sizeOf119 Tryz.zeroValue119 rfl rfl rfl rfl ⟨⟨_, _, rfl, (by first | rfl | simp), (by first | decide | simp)⟩, trivial⟩ (by dsimp [fillL, splice, vcells, reps] <;> rfl)) rfl ?_
    rintro v L' ⟨b28, rfl, rfl⟩; refine ⟨zge, ?_⟩
    refine hnil ?_
    refine ya (ac_append (xs := keepsV (ks.take k)) (m := k) (k := 1) (us := [i64 yy.1, i64 yy.2]) (size := 2) rfl rfl (by repeat first | exact .z | apply Pk.s) Tryz.underlying46 Tryz.underlying46 (by intro q hq; cases hq) Tryz.typeInfo119 rfl rfl rfl ?ok30 ?src30 ?one30 ?big30) rfl ?_
    case ok30 => exact ok3
    case src30 => exact src_at zin rfl rfl
    case one30 => simp [Value.oneCell']
    case big30 => show (k + 1) * 17 ≤ _; omega
    rintro v L' ⟨s29, rfl, ok29, rfl⟩
    rw [← keepsV_succ hy] at ok29 ⊢
    refine y (ev_assign rfl) rfl ?_
    refine hnoP' (kbn (kthn (hK8 _ _ ?_)))
    clear hK8
    refine creg ?_
    refine y (ev_move rfl) rfl ?_
    refine y (ev_add rfl rfl) rfl ?_
    rw [show IntKind.i64.wrap ((k:Int) + 1) = ((k+1 : Nat) : Int) by rw [wr (by omega) (by omega)]; rfl]
    refine y (ev_assign rfl) rfl ?_
    refine ynil' (kthn ?_)
    exact hL1 ((k + 1, s29)) (⟨ok29, by dsimp only; omega⟩) (by dsimp only; omega) _ _ zsub zge
   ·(try simp only [sH] at h16)
    refine cexit (kthx (kthx (kbx (kthn ?_))))
    exact ksub zsub zge (hJ1 ⟨k, s3⟩ ⟨hI1o, by dsimp only; omega⟩)
  ·(try simp only [sH] at h12)
   refine yg0 rfl rfl rfl rfl ?_
   refine yg0 rfl rfl rfl rfl ?_
   refine y (ev_pick0 rfl rfl) rfl ?_
   refine ynil' (kthn (hK7 _ _ ?_))
   clear hK7
   refine ccond0 rfl ?_
   refine cexit (kthx (kthx (kbx (kthn ?_))))
   exact ksub zsub zge (hJ1 ⟨k, s3⟩ ⟨hI1o, by dsimp only; omega⟩)
theorem secReadU [Env] {R : List Seg} {q : Q3} {D : Dev} {i : Int} (hD : D.ok) : Con Tryz.prog 26 [dp q, i64 i] [dev q D] R
    (fun v L' => ∃ s, v = .tuple #[svVal s (D.rdB i).length, i64 (D.has i)] ∧ svOk s (D.rdB i).length 1 (bytesV (D.rdB i)) ∧ L' = [svSeg s 5 (bytesV (D.rdB i)), dev q D]) := by
  refine (secRead hD).via (List.Perm.refl _) ?_
  unfold Dev.rdB
  rintro v L (⟨h1, rfl, rfl⟩ | ⟨h1, s, rfl, h2, rfl⟩)
  · exact ⟨_, ⟨none, by rw [if_neg h1]; rfl, by rw [if_neg h1]; exact ⟨rfl, rfl⟩, rfl⟩, by simp [svSeg]⟩
  · refine ⟨_, ⟨s, by rw [if_pos h1, sec_length hD, h1], ?_, rfl⟩, by rw [if_pos h1]⟩
    rw [if_pos h1, sec_length hD]; exact h2
theorem rdReadU [Env] {R : List Seg} {p la : Nat} {D : RDev} {i : Int} (hD : D.ok) (hl : D.has i = 0 → (D.sec i).length = 144) : Con Tryz.prog 27 [ptr p, i64 i] [rdev p la D] R
    (fun v L' => ∃ s, v = .tuple #[svVal s (D.rdB i).length, i64 (D.has i)] ∧ svOk s (D.rdB i).length 1 (bytesV (D.rdB i)) ∧ L' = [svSeg s 5 (bytesV (D.rdB i)), rdev p la D]) := by
  refine (rdRead hD).via (List.Perm.refl _) ?_
  unfold RDev.rdB
  rintro v L (⟨h1, rfl, rfl⟩ | ⟨h1, s, rfl, h2, rfl⟩)
  · exact ⟨_, ⟨none, by rw [if_neg h1]; rfl, by rw [if_neg h1]; exact ⟨rfl, rfl⟩, rfl⟩, by simp [svSeg]⟩
  · refine ⟨_, ⟨s, by rw [if_pos h1, hl h1, h1], ?_, rfl⟩, by rw [if_pos h1]⟩
    rw [if_pos h1, hl h1]; exact h2
theorem xLarge [Env] {R : List Seg} {x : ActW} (hx : x.ok R) : Con Tryz.prog 10 [.agg x.cells.toArray] [] R (fun u L' => ∃ b, u = .bool b ∧ (b = false → x.ks.length ≤ 600) ∧ L' = []) := by
  have hkk := hx.keeps
  have hkl := hkk.lenVal
  refine con_enter Tryz.func10 Tryz.ntmps10 rfl rfl ?_
  refine cseq ?_; intro K1 hK1
  refine creg ?_
  refine ya (ac_box (vs := x.cells) rfl rfl) rfl ?_
  rintro v L' ⟨b1, rfl, rfl⟩
  refine y (ev_assign rfl) rfl ?_
  refine ynil' (kthn (hK1 _ _ ?_))
  clear hK1
  refine cseq ?_; intro K2 hK2
  refine creg ?_
  refine y (ev_fieldAddr 16 rfl Tryz.underlying40 rfl Tryz.sizeOf9) rfl ?_
  refine y (ev_load rfl Tryz.isAgg9 zin rfl) rfl ?_
  first
    | refine y (ev_lenStr rfl Tryz.underlying9) rfl ?_
    | refine y (ev_lenS rfl Tryz.underlying9) rfl ?_
  refine y (ev_gtr rfl rfl) rfl ?_
  refine y (ev_move rfl) rfl ?_
  refine ysplit 7 rfl (fun h43 => ?_) (fun h43 => ?_)
  ·(try simp only [sH] at h43)
   refine yg0 rfl rfl rfl rfl ?_
   refine yg0 rfl rfl rfl rfl ?_
   refine yg0 rfl rfl rfl rfl ?_
   refine yg0 rfl rfl rfl rfl ?_
   refine y (ev_pick1 rfl rfl) rfl ?_
   refine y (ev_move rfl) rfl ?_
   refine yg0 rfl rfl rfl rfl ?_
   refine yg0 rfl rfl rfl rfl ?_
   refine yg0 rfl rfl rfl rfl ?_
   refine yg0 rfl rfl rfl rfl ?_
   refine yg0 rfl rfl rfl rfl ?_
   refine y (ev_pick1 rfl rfl) rfl ?_
   refine y (ev_move rfl) rfl ?_
   refine yg0 rfl rfl rfl rfl ?_
   refine yg0 rfl rfl rfl rfl ?_
   refine yg0 rfl rfl rfl rfl ?_
   refine yg0 rfl rfl rfl rfl ?_
   refine yg0 rfl rfl rfl rfl ?_
   refine y (ev_pick1 rfl rfl) rfl ?_
   refine y (ev_assign rfl) rfl ?_
   refine ynil' (kthn (hK2 _ _ ?_))
   clear hK2
   refine cret ?_
   first
     | (exfalso; omega; done)
     | (refine kretv Tryz.results10 rfl (L1 := [] ++ R) zge ?_
        exact ⟨_, ⟨_, rfl, fun h => by first | omega | (simp at h; done) | (simp at h; omega), rfl⟩, rfl⟩)
  ·(try simp only [sH] at h43)
   refine yg1 rfl rfl ?_
   refine y (ev_fieldAddr 17 rfl Tryz.underlying40 rfl Tryz.sizeOf38) rfl ?_
   refine yg1 rfl rfl ?_
   refine y (ev_load rfl Tryz.isAgg38 zin rfl) rfl ?_
   refine yg1 rfl rfl ?_
   refine y (ev_lenV rfl Tryz.underlying38 hkl) rfl ?_
   refine yg1 rfl rfl ?_
   refine y (ev_gtr rfl rfl) rfl ?_
   refine y (ev_pick0 rfl rfl) rfl ?_
   refine y (ev_move rfl) rfl ?_
   refine ysplit 13 rfl (fun h56 => ?_) (fun h56 => ?_)
   ·(try simp only [sH] at h56)
    refine yg0 rfl rfl rfl rfl ?_
    refine yg0 rfl rfl rfl rfl ?_
    refine yg0 rfl rfl rfl rfl ?_
    refine yg0 rfl rfl rfl rfl ?_
    refine yg0 rfl rfl rfl rfl ?_
    refine y (ev_pick1 rfl rfl) rfl ?_
    refine y (ev_move rfl) rfl ?_
    refine yg0 rfl rfl rfl rfl ?_
    refine yg0 rfl rfl rfl rfl ?_
    refine yg0 rfl rfl rfl rfl ?_
    refine yg0 rfl rfl rfl rfl ?_
    refine yg0 rfl rfl rfl rfl ?_
    refine y (ev_pick1 rfl rfl) rfl ?_
    refine y (ev_assign rfl) rfl ?_
    refine ynil' (kthn (hK2 _ _ ?_))
    clear hK2
    refine cret ?_
    first
      | (exfalso; omega; done)
      | (refine kretv Tryz.results10 rfl (L1 := [] ++ R) zge ?_
         exact ⟨_, ⟨_, rfl, fun h => by first | omega | (simp at h; done) | (simp at h; omega), rfl⟩, rfl⟩)
   ·(try simp only [sH] at h56)
    refine yg1 rfl rfl ?_
    refine y (ev_fieldAddr 3 rfl Tryz.underlying40 rfl Tryz.sizeOf37) rfl ?_
    refine yg1 rfl rfl ?_
    refine y (ev_fieldAddr 11 rfl Tryz.underlying37 rfl Tryz.sizeOf9) rfl ?_
    refine yg1 rfl rfl ?_
    refine y (ev_load rfl Tryz.isAgg9 zin rfl) rfl ?_
    refine yg1 rfl rfl ?_
    first
      | refine y (ev_lenStr rfl Tryz.underlying9) rfl ?_
      | refine y (ev_lenS rfl Tryz.underlying9) rfl ?_
    refine yg1 rfl rfl ?_
    refine y (ev_gtr rfl rfl) rfl ?_
    refine y (ev_pick0 rfl rfl) rfl ?_
    refine y (ev_move rfl) rfl ?_
    refine ysplit 20 rfl (fun h68 => ?_) (fun h68 => ?_)
    ·(try simp only [sH] at h68)
     refine yg0 rfl rfl rfl rfl ?_
     refine yg0 rfl rfl rfl rfl ?_
     refine yg0 rfl rfl rfl rfl ?_
     refine yg0 rfl rfl rfl rfl ?_
     refine yg0 rfl rfl rfl rfl ?_
     refine y (ev_pick1 rfl rfl) rfl ?_
     refine y (ev_assign rfl) rfl ?_
     refine ynil' (kthn (hK2 _ _ ?_))
     clear hK2
     refine cret ?_
     first
       | (exfalso; omega; done)
       | (refine kretv Tryz.results10 rfl (L1 := [] ++ R) zge ?_
          exact ⟨_, ⟨_, rfl, fun h => by first | omega | (simp at h; done) | (simp at h; omega), rfl⟩, rfl⟩)
    ·(try simp only [sH] at h68)
     refine yg1 rfl rfl ?_
     refine y (ev_fieldAddr 3 rfl Tryz.underlying40 rfl Tryz.sizeOf37) rfl ?_
     refine yg1 rfl rfl ?_
     refine y (ev_fieldAddr 12 rfl Tryz.underlying37 rfl Tryz.sizeOf9) rfl ?_
     refine yg1 rfl rfl ?_
     refine y (ev_load rfl Tryz.isAgg9 zin rfl) rfl ?_
     refine yg1 rfl rfl ?_
     first
       | refine y (ev_lenStr rfl Tryz.underlying9) rfl ?_
       | refine y (ev_lenS rfl Tryz.underlying9) rfl ?_
     refine yg1 rfl rfl ?_
     refine y (ev_gtr rfl rfl) rfl ?_
     refine y (ev_pick0 rfl rfl) rfl ?_
     refine y (ev_assign rfl) rfl ?_
     refine ynil' (kthn (hK2 _ _ ?_))
     clear hK2
     refine cret ?_
     first
       | (exfalso; omega; done)
       | (refine kretv Tryz.results10 rfl (L1 := [] ++ R) zge ?_
          exact ⟨_, ⟨_, rfl, fun h => by first | omega | (simp at h; done) | (simp at h; omega), rfl⟩, rfl⟩)
theorem rsec_144 {D : Dev} {E : RDev} (h : Rel D E) : ∀ i : Int, 0 ≤ i → i < E.l.length → (E.sec i).length = 144 := fun i h0 h1 => by rw [← h.sec h0 (by rw [← h.len]; exact h1)]; exact sec_length h.ok _
theorem rtext {D : Dev} {E : RDev} (h : Rel D E) (a b : Int) : openER E a b = 0 → (openCR E a b).text.length ≤ 1000 := fun ho => by
  have ho2 : openE D a b = 0 := by rw [openER_rel h]; exact ho
  rw [← openCR_rel h ho2]
  have := (openC_ok ho2).1.text
  omega
theorem secNewZ [Env] {R : List Seg} {n : Int} (hn : 0 ≤ n ∧ n ≤ 512) : Con Tryz.prog 6 [i64 n] [] R (fun v L' => ∃ q, v = dp q ∧ L' = [dev q (Dev.new n.toNat)]) := by
  have h := secNew (R := R) (n := n.toNat) (by omega)
  rw [show ((n.toNat : Nat) : Int) = n by omega] at h
  exact h
theorem rdNewZ [Env] {R : List Seg} {n : Int} (hn : 0 ≤ n ∧ n ≤ 512) : Con Tryz.prog 7 [i64 n] [] R (fun v L' => ∃ p la, v = ptr p ∧ L' = [rdev p la (RDev.new n.toNat)]) := by
  have h := rdNew (R := R) (n := n.toNat) (by omega)
  rw [show ((n.toNat : Nat) : Int) = n by omega] at h
  exact h
theorem rw_ok {W : WitM} {D : Dev} {E : RDev} (h : W.ok D) (hr : Rel D E) : RWok W E := ⟨h.c.gen, h.c.now, h.f, h.left, h.wait, hr.rok, fun i bs => (hr.write i bs).2.rok⟩
/-- The two witnesses, where there are such. -/
abbrev TwW := Option ((Nat × Nat) × (Nat × Nat × Nat) × WitM)
def twV1 : TwW → Value
  | none => nilP
  | some x => ptr x.1.1
def twV2 : TwW → Value
  | none => nilP
  | some x => ptr x.2.1.1
def twA : TwW → Seg
  | none => []
  | some x => witP x.1.1 x.1.2 x.2.2
def twB (q : Q3) : TwW → Seg
  | none => []
  | some x => celP x.1.2 q x.2.2.c
def twC : TwW → Seg
  | none => []
  | some x => rwS x.2.1.1 x.2.1.2.1 (lsV x.2.1.2.2) x.2.2
def twL : TwW → Seg
  | none => []
  | some x => rwL x.2.1.2.2 x.2.2.f
def twD (p : Nat) : TwW → Seg
  | none => []
  | some x => rcelP x.2.1.2.1 p x.2.2.c
structure WdM where
  D : Dev
  E : RDev
  t : TwW
structure WdM.ok (x : WdM) (N : Nat) : Prop where
  r : Rel x.D x.E
  len : x.D.l.length = N
  t : ∀ z, x.t = some z → z.2.2.c.ok N ∧ z.2.2.f.ok ∧ (0 ≤ z.2.2.left ∧ z.2.2.left ≤ 9223372036854775807) ∧ (1 ≤ z.2.2.wait ∧ z.2.2.wait ≤ 1099511627776)
theorem WdM.ok.l {D : Dev} {E : RDev} {N : Nat} {z : (Nat × Nat) × (Nat × Nat × Nat) × WitM} (h : WdM.ok ⟨D, E, some z⟩ N) : z.2.2.ok D := by
  obtain ⟨h1, h2, h3, h4⟩ := h.t z rfl
  exact ⟨by rw [h.len]; exact h1, h2, h3, h4, h.r.ok⟩
theorem WdM.ok.of {D : Dev} {E : RDev} {N : Nat} {z : (Nat × Nat) × (Nat × Nat × Nat) × WitM} (hr : Rel D E) (hl : D.l.length = N) (h : z.2.2.ok D) : WdM.ok ⟨D, E, some z⟩ N :=
  ⟨hr, hl, fun y hy => by cases hy; exact ⟨by rw [← hl]; exact h.c, h.f, h.left, h.wait⟩⟩
theorem WdM.ok.dev {D D' : Dev} {E E' : RDev} {N : Nat} {t : TwW} (h : WdM.ok ⟨D, E, t⟩ N) (hr : Rel D' E') (hl : D'.l.length = N) : WdM.ok ⟨D', E', t⟩ N := ⟨hr, hl, h.t⟩
theorem WdM.ok.none' {D : Dev} {E : RDev} {N : Nat} (h : Rel D E) (hl : D.l.length = N) : WdM.ok ⟨D, E, none⟩ N := ⟨h, hl, fun z hz => by cases hz⟩
theorem WdM.ok.tick {D : Dev} {E : RDev} {N : Nat} {s : Nat × Nat} {r : Nat × Nat × Nat} {W : WitM} (h : WdM.ok ⟨D, E, some (s, r, W)⟩ N) : WdM.ok ⟨D, E, some (s, r, W.tick)⟩ N := WdM.ok.of h.r h.len (WitM.tick_ok (WdM.ok.l h))
theorem xOpenBad [Env] {R : List Seg} {p la : Nat} {D : Dev} {E : RDev} {a b wait : Int} (h : Rel D E) (ho : witE D a b wait ≠ 0) : Con Tryz.prog 9 [ptr p, i64 a, i64 b, i64 wait] [rdev p la E] R (Is (.tuple #[nilP, i64 (witE D a b wait)]) [rdev p la E]) := by
  refine (xOpen h.rok (rsec_144 h) (rtext h a b)).mono ?_
  rintro v L (⟨h1, rfl, rfl⟩ | ⟨h1, _⟩)
  · exact ⟨by rw [witER_rel h], rfl⟩
  · exact absurd (by rw [witER_rel h]; exact h1) ho
theorem xOpenOk [Env] {R : List Seg} {p la : Nat} {D : Dev} {E : RDev} {a b wait : Int} (h : Rel D E) (ho : witE D a b wait = 0) : Con Tryz.prog 9 [ptr p, i64 a, i64 b, i64 wait] [rdev p la E] R (fun u L' => ∃ s c lb, u = .tuple #[ptr s, i64 0] ∧ L' = [rwS s c (lsV lb) (witO D a b wait), rwL lb (witO D a b wait).f, rcelP c p (openC D a b), rdev p la E]) := by
  refine (xOpen h.rok (rsec_144 h) (rtext h a b)).mono ?_
  rintro v L (⟨h1, _⟩ | ⟨_, s, c, lb, rfl, rfl⟩)
  · exact absurd (by rw [← witER_rel h]; exact ho) h1
  · have h3 : witO D a b wait = witOR E a b wait := witOR_rel h ho
    have h4 : openC D a b = openCR E a b := congrArg WitM.c h3
    rw [h3, h4]
    exact ⟨s, c, lb, rfl, rfl⟩
theorem wOpenOkZ [Env] {R : List Seg} {q : Q3} {D : Dev} {a b wait : Int} (hD : D.ok) (h : witE D a b wait = 0) : Con Tryz.prog 8 [dp q, i64 a, i64 b, i64 wait] [dev q D] R (fun u L' => ∃ s c, u = .tuple #[ptr s, i64 0] ∧ L' = [witP s c (witO D a b wait), celP c q (openC D a b), dev q D]) := wOpenGood hD h
end W
end Go.Proofs
